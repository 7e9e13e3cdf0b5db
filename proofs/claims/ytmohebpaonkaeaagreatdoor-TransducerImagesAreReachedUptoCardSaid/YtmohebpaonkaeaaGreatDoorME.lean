/- Part 5 of the walk through the functions that the laws of package fleet call: each function's contract, without conditions but those that its statement names. -/
import Derived.Test.YtmohebpaonkaeaaGreatDoorMD
set_option maxHeartbeats 4000000
set_option maxRecDepth 10000
set_option linter.unusedVariables false
set_option linter.unusedSimpArgs false
set_option linter.unusedSectionVars false
namespace Go.Proofs.YtmohebpaonkaeaaGreatDoor
open Go Go.Ex Go.RowKit Go.Proofs.Tryz
variable {G:Ah} {x:Cx} {W:World→Prop} {E:Env} {K:Value→Prop} {d:Option Tmp} {ty:TypeId} {pos:String} {aft:Array Edge} {g:Option (Nat×Bool)} {o p:Operand} {xt yt:TypeId}
theorem PL33:places prog 33=some [(0,1),(1,1),(2,1),(3,1)]:=by kernel_rfl
theorem PL74:places prog 74=some [(0,1),(1,1)]:=by kernel_rfl
theorem Od:TI prog 22 (Vn) 1 24:=TI.of kR
theorem Tm:TI prog 71 (Vn) 1 24:=TI.of kR
theorem TI74:TI prog 74 (.agg #[Vi 0,Vn]) 2 32:=TI.of kR
theorem u8w7 (a:UInt8):IntKind.u8.wrap (a.toNat:Int)=(a.toNat:Int):=by rw [Dx];simp
theorem keyQ7:Hf prog 97 Gx:=Hf.pair underlying97 sizeOf3 isAgg3 underlying3
theorem oN {t u C:Tr} (h:uE t u=some C):∃ L Rows,Us t u (Gg (t.cls++u.cls)) 5000 0 [(0,0)] []=some (L,Rows)∧C=⟨Gg (t.cls++u.cls),Rows,L.map fun s=>(Iu t u s).isSome,L.map fun s=>(Iu t u s).getD []⟩:=by
  unfold uE at h
  cases hc:Us t u (Gg (t.cls++u.cls)) 5000 0 [(0,0)] [] with
  | none=>rw [hc] at h;cases h
  | some lr=>obtain ⟨l,rows⟩:=lr;rw [hc] at h;injection h with h;exact ⟨l,rows,rfl,h.symm⟩
theorem lA {t u:Tr} {cls:List (List Nat)} {f i:Nat} {l:List (Nat×Nat)} {rows:List (List Mv)} {R:List (Nat×Nat)×List (List Mv)} (h:Us t u cls f i l rows=some R):0<f:=by
  cases f with
  | zero=>cases h
  | succ f=>omega
theorem comG_end {t u:Tr} {cls:List (List Nat)} {f i:Nat} {l:List (Nat×Nat)} {rows:List (List Mv)} {R:List (Nat×Nat)×List (List Mv)} (hi:¬ i<l.length) (h:Us t u cls (f+1) i l rows=some R):R=(l,rows):=by
  rw [Us,AaL oM] at h;injection h with h;exact h.symm
theorem comG_go {t u:Tr} {cls:List (List Nat)} {f i:Nat} {l:List (Nat×Nat)} {rows:List (List Mv)} {R:List (Nat×Nat)×List (List Mv)} (hi:i<l.length) (h:Us t u cls (f+1) i l rows=some R) :
    Us t u cls f (i+1) (cls.foldl (Tc t u l[i]) (l,[])).1 (rows++[(cls.foldl (Tc t u l[i]) (l,[])).2])=some R:=by
  rw [Us,AaA hi] at h;exact h
theorem comP_s {t u:Tr} {s:Nat×Nat} {l:List (Nat×Nat)} {rw9:List Mv} {c:List Nat} {x:UInt8} {rd:dR} (hx:UInt8.ofNat (Io c)=x) (hr:Li t u s x=rd) (h:rd.stuck=true):Tc t u s (l,rw9) c=(l,rw9++[⟨-1,[]⟩]):=by
  subst hx hr;unfold Tc;dsimp only;rw [if_pos h]
theorem comP_o {t u:Tr} {s:Nat×Nat} {l:List (Nat×Nat)} {rw9:List Mv} {c:List Nat} {x:UInt8} {rd:dR} {tn:Nat} (hx:UInt8.ofNat (Io c)=x) (hr:Li t u s x=rd) (h:rd.stuck=false) (ht:(Dv t s.1 x).to=(tn:Int)) (hp:Bc (tn,rd.at_) l<l.length) :
    Tc t u s (l,rw9) c=(l,rw9++[⟨(Bc (tn,rd.at_) l:Nat),rd.out⟩]):=by
  subst hx hr;unfold Tc;dsimp only;rw [if_neg Z51,ht,AbE,if_pos hp]
theorem comP_n {t u:Tr} {s:Nat×Nat} {l:List (Nat×Nat)} {rw9:List Mv} {c:List Nat} {x:UInt8} {rd:dR} {tn:Nat} (hx:UInt8.ofNat (Io c)=x) (hr:Li t u s x=rd) (h:rd.stuck=false) (ht:(Dv t s.1 x).to=(tn:Int)) (hp:¬ Bc (tn,rd.at_) l<l.length) :
    Tc t u s (l,rw9) c=(l++[(tn,rd.at_)],rw9++[⟨(l.length:Nat),rd.out⟩]):=by
  subst hx hr;unfold Tc;dsimp only;rw [if_neg Z51,ht,AbE,if_neg hp]
theorem qq_max {t u:Tr} (ht:Cn7.TrOk t) (hu:Cn7.TrOk u) {l:List (Nat×Nat)} (hn:l.Nodup) (h:∀ x∈l,Cn7.qqOk t u x):l.length≤4096:=by
  have h1:=Cn7.qq_le l hn h
  have h2:t.moves.length*u.moves.length≤64*64:=Abg ht.n2 hu.n2
  omega
def mvC (p:Int×Value):List Value:=[Vi p.1,p.2]
def Wl (l:List (Int×Value)):List Value:=(l.map mvC).flatten
theorem sD (l:List (Int×Value)):(Wl l).length=l.length*2:=by
  induction l with
  | nil=>rfl
  | cons p l ih=>unfold Wl at *;rw [Aar,AbW,AaB,ih,AaZ];show 2+_=_;omega
theorem Lv (a b:List (Int×Value)):Wl (a++b)=Wl a++Wl b:=by unfold Wl;simp
theorem mvL_rep (n:Nat):(List.replicate n [Value.int .i64 0,Vn]).flatten=Wl (List.replicate n (0,Vn)):=by unfold Wl;rw [Abk];rfl
theorem sE {ms:List (Int×Value)} {n k:Nat} {a:Int} {v:Value} (hl:ms.length=k) (h:k<n):(Wl (ms++List.replicate (n-k) (0,Vn))).take (k*2)++[Vi a,v]++(Wl (ms++List.replicate (n-k) (0,Vn))).drop (k*2+2)=Wl ((ms++[(a,v)])++List.replicate (n-(k+1)) (0,Vn)):=by
  obtain ⟨j,hj⟩:∃ j,n-k=j+1:=⟨n-k-1,by omega⟩
  have e:n-(k+1)=j:=by omega
  rw [hj,e,AbY,Lv,Lv,Lv]
  have h2:(Wl ms).length=k*2:=by rw [sD,hl]
  rw [List.take_left' h2,show Wl ((0,Value.slice none 0 0)::List.replicate j (0,Vn))=[Vi 0,Vn]++Wl (List.replicate j (0,Vn)) from rfl,← AaI,List.drop_left' (by rw [AaB,h2];rfl)]
  rfl
theorem mvL_set {ms:List (Int×Value)} {n k:Nat} {a:Int} (hl:ms.length=k) (h:k<n):(Wl (ms++List.replicate (n-k) (0,Vn))).set (k*2) (Vi a)=Wl ((ms++[(a,Vn)])++List.replicate (n-(k+1)) (0,Vn)):=by
  obtain ⟨j,hj⟩:∃ j,n-k=j+1:=⟨n-k-1,by omega⟩
  have e:n-(k+1)=j:=by omega
  rw [hj,e,AbY,Lv,Lv,Lv]
  have h2:(Wl ms).length=k*2:=by rw [sD,hl]
  rw [AbM _ _ oM,h2,Aaw,AaI];rfl
def MvP (G:Ah) (p:Int×Value) (m:Mv):Prop:=p.1=m.to∧mJ G p.2 m.out
def MPs (G:Ah) (ms:List (Int×Value)) (l:List Mv):Prop:=Cw (MvP G) ms l
theorem MPs.mono {G G':Ah} (h:G.le G') {ms:List (Int×Value)} {l:List Mv} (hl:MPs G ms l):MPs G' ms l:=Cw.mono (fun _ _ hn=>⟨hn.1,hn.2.mono h⟩) hl
theorem gP {v:Value} {n:Nat} {ms:List (Int×Value)} {l:List Mv} (h:Sl G v 2 n (Wl ms)) (hn:n=l.length) (hl:MPs G ms l):nY G v l:=by
  refine Bi.ofSl (cs:=ms.map mvC) h rfl hn ?_ (fun c hc=>by obtain ⟨r,_,rfl⟩:=Aaf.1 hc;rfl)
  clear h hn
  induction ms generalizing l with
  | nil=>cases l with
    | nil=>trivial
    | cons=>exact hl.elim
  | cons p ms ih=>cases l with
    | nil=>exact hl.elim
    | cons m l=>exact ⟨⟨p.2,by show [Value.int .i64 p.1,p.2]=_;rw [hl.1.1],hl.1.2⟩,ih hl.2⟩
def Wm (G:Ah) (vs:List Value) (l:List (List Mv)):Prop:=Cw (nY G) vs l
theorem Wm.mono {G G':Ah} (h:G.le G') {vs:List Value} {l:List (List Mv)} (hl:Wm G vs l):Wm G' vs l:=Cw.mono (fun _ _ hn=>hn.mono h) hl
def Tn (G:Ah) (vs:List Value) (l:List (List UInt8)):Prop:=Cw (Bd G) vs l
theorem Tn.mono {G G':Ah} (h:G.le G') {vs:List Value} {l:List (List UInt8)} (hl:Tn G vs l):Tn G' vs l:=Cw.mono (fun _ _ hn=>hn.mono h) hl
theorem mm_fin {v:Value} {n:Nat} {vs:List Value} {l:List (List Mv)} (h:Sl G v 1 n vs) (hn:n=l.length) (hl:Wm G vs l):MM G v l:=by
  refine Bi.ofSl (cs:=vs.map fun v=>[v]) h Z10 hn ?_ sM
  clear h hn
  induction vs generalizing l with
  | nil=>cases l with
    | nil=>trivial
    | cons=>exact hl.elim
  | cons p ms ih=>cases l with
    | nil=>exact hl.elim
    | cons m l=>exact ⟨⟨p,rfl,hl.1⟩,ih hl.2⟩
def ppF (l:List (Nat×Nat)):List Value:=(l.map fun p=>[Bl p.1,Bl p.2]).flatten
theorem ppF_snoc (l:List (Nat×Nat)) (p:Nat×Nat):ppF (l++[p])=ppF l++[Bl p.1,Bl p.2]:=by unfold ppF;simp
theorem oO:∀ {l:List (Nat×Nat)} {i:Nat} (h:i<l.length),(ppF l)[i*2]?=some (Bl (l[i]).1)∧(ppF l)[i*2+1]?=some (Bl (l[i]).2)
  | p::l,0,_=>⟨rfl,rfl⟩
  | p::l,i+1,h=>by
    have ih:=oO (l:=l) (i:=i) iB
    rw [show (i+1)*2=i*2+2 by omega,show i*2+2+1=(i*2+1)+2 by omega]
    exact ih
theorem cll_two {v a b:Value} {l m:List (List Nat)} (h:Sl G v 1 2 [a,b]) (ha:Hl G a l) (hb:Hl G b m):CLL G v [l,m]:=⟨[[a],[b]],h,⟨⟨a,rfl,ha⟩,⟨b,rfl,hb⟩,trivial⟩,by simp⟩
theorem vG {u:Tr} {like:UInt8} {l:List Pc} {r:dR} (h:(l.foldl (Of u like) r).stuck=false):r.stuck=false:=by
  cases hr:r.stuck with
  | false=>rfl
  | true=>rw [Cn7.rd_stuck l hr] at h;cases h
def TE (G:Ah) (r:Value):Option Tr→Prop
  | some C=>∃ vt,r=.tuple #[vt,.int .i64 0]∧Mp G vt C
  | none=>r=.tuple #[.agg #[.slice none 0 0,.slice none 0 0,.slice none 0 0,.slice none 0 0],.int .i64 2]
theorem Es.fin {v:Value} {n:Nat} {vs:List Value} {l:List (List UInt8)} (h:Sl G v 1 n vs) (hn:n=l.length) (hl:Tn G vs l):Es G v l:=by subst hn;exact ⟨vs,h,hl⟩
theorem sF {v v2:Value} {t u:Tr} (ht:Mp G v t) (hu:Mp G v2 u) (htok:Cn7.TrOk t) (hutok:Cn7.TrOk u) (hT:Tab G) :
  Ba prog 25 [v,v2] G [] fun r G' H'=>H'=[]∧∃ C,uE t u=some C∧TE G' r (if Gh C=true then some C else none):=by
 obtain ⟨v1,v2,v3,v4,rfl,hTc,hTm,hTf,hTe⟩:=ht
 obtain ⟨A1,c1,rfl⟩:=hTc.slice
 obtain ⟨A2,c2,rfl⟩:=hTm.slice
 obtain ⟨A3,c3,rfl,_⟩:=id hTf
 obtain ⟨A4,c4,rfl⟩:=Eg hTe
 obtain ⟨v5,v6,v7,v8,rfl,hUc,hUm,hUf,hUe⟩:=hu
 obtain ⟨A5,c5,rfl⟩:=hUc.slice
 obtain ⟨A6,c6,rfl⟩:=hUm.slice
 obtain ⟨A7,c7,rfl,_⟩:=id hUf
 obtain ⟨A8,c8,rfl⟩:=Eg hUe
 have hc1:u.cls.length≤256:=hutok.part.k2
 have hc0:t.cls.length≤256:=htok.part.k2
 have hml1:=htok.n1
 have hml2:=hutok.n1
 obtain ⟨C,hC,hCok⟩:=Cn7.com_ok htok hutok
 obtain ⟨L,Rows,hexA,hCe⟩:=oN hC
 have hallc:∀ c∈t.cls++u.cls,Cj c:=fun c hc=>(AaS.1 hc).elim (htok.part.c4 c) (hutok.part.c4 c)
 obtain ⟨hptc,_,_⟩:=Cn7.cells_ok7 hallc
 obtain ⟨CC,hCCe⟩:∃ z,z=Gg (t.cls++u.cls):=⟨_,rfl⟩
 rw [← hCCe] at hexA hCe hptc
 have hccl:=hptc.len
 have hok0:∀ s∈[((0,0):Nat×Nat)],Cn7.qqOk t u s:=fun s hs=>by rw [AaE.1 hs];exact ⟨hml1,hml2⟩
 refine Ba.of_T [(0,_),(1,_)] func25 rfl ntmps25 sM rfl fun w0 hs=>?_
 have hTc0:=hTc
 have hTm0:=hTm
 have hTf0:=hTf
 have hTe0:=hTe
 have hUc0:=hUc
 have hUm0:=hUm
 have hUf0:=hUf
 have hUe0:=hUe
 have hT0:=hT
 refine Wt 2 [] hs rfl<|O_s (Sb hs rfl fun b2 _ hs=>O_s (Sb hs rfl fun b3 _ hs=>O_s (Sa hs zeroValue33 rfl fun b4 _ hs=>Wp 6 [0,2] hs rfl<|O_s (Sp (Pb ⟨_,_,_,_,rfl,hTc,hTm,hTf,hTe⟩ htok) hs rfl fun v1 G' _ hR hG28 hs=>?_))))
 obtain rfl:=hR
 refine Wp 3 [1] hs rfl ?_
 replace hUc:=hUc.mono hG28
 replace hUm:=hUm.mono hG28
 replace hUf:=hUf.mono hG28
 replace hUe:=hUe.mono hG28
 refine Dh 30 rfl rfl (Sp (Pb ⟨_,_,_,_,rfl,hUc,hUm,hUf,hUe⟩ hutok) hs rfl fun v2 G' _ hR hG32 hs=>?_)
 obtain rfl:=hR
 refine Wp 5 [0] hs rfl ?_
 have hs:=hs.f2
 obtain ⟨_,hGbhB2,hB2,hs⟩:=hs.fixBlk (fun k _=>Gb k)
 replace hB2:Cg _ b2 _:=hB2
 have hs:=hs.f1
 obtain ⟨_,hGbhB3,hB3,hs⟩:=hs.fixBlk (fun k _=>Gb k)
 replace hB3:Cg _ b3 _:=hB3
 refine Wu 3 [0] hs rfl ?_
 replace hB2:=hB2.mono hGbhB3
 refine Zy hs (Yg rfl (hB2 0 _ rfl)<|Wp 1 [0] hs rfl<|Zy hs (Yg rfl (hB3 0 _ rfl)<|O_s (Bw hs underlying203 sizeOf28 zeroValue28 rfl rfl dC dC rfl (cs:=[_,_]) rfl rfl fun v3 _ hs _=>?_)))
 have hsN:=hs.fixRow noM
 clear hs
 obtain ⟨_,hG40,hl40,hs⟩:=hsN
 replace hTc:=hTc.mono (hG28.trans (hG32.trans (hGbhB2.trans (hGbhB3.trans hG40))))
 replace hUc:=hUc.mono (hG32.trans (hGbhB2.trans (hGbhB3.trans hG40)))
 have hcll:=cll_two hl40 hTc hUc
 obtain ⟨A40,c40,rfl,_⟩:=id hl40
 refine O_s (Sp (concc_ok (l:=[t.cls,u.cls]) hcll (show 2≤1000000 by decide) tE (by intro c hc;simp at hc;rcases hc with hc | hc;exact htok.part.c4 c hc;exact hutok.part.c4 c hc)) hs rfl fun v4 G' _ h41 hG41 hs=>?_)
 rw [show ([t.cls,u.cls]:List (List (List Nat))).flatten=t.cls++u.cls from by simp] at h41
 replace hT:=hT.mono (hG28.trans (hG32.trans (hGbhB2.trans (hGbhB3.trans (hG40.trans hG41)))))
 refine O_s (Sp (gL h41 hallc (by rw [AaB];omega) hT) hs rfl fun v5 G' _ hCC hG42 hs=>?_)
 rw [← hCCe] at hCC
 obtain ⟨Acc,ccc,rfl⟩:=hCC.slice
 refine Zy hs (Ce zeroValue33 rfl PL33 rfl (cs:=[_,_,_,_]) rfl<|O_s (Sa hs zeroValue33 rfl fun b6 _ hs=>O_n (Sg hs rfl (rfl) fun _ hs=>Wp 1 [4,2,3,4,6] hs rfl ?_)))
 have hGz:=hG28.trans (hG32.trans (hGbhB2.trans (hGbhB3.trans (hG40.trans (hG41.trans hG42)))))
 replace hTm:=hTm.mono hGz
 replace hTf:=hTf.mono hGz
 replace hTe:=hTe.mono hGz
 have hGz:=hG32.trans (hGbhB2.trans (hGbhB3.trans (hG40.trans (hG41.trans hG42))))
 replace hUm:=hUm.mono hGz
 replace hUf:=hUf.mono hGz
 replace hUe:=hUe.mono hGz
 have hGz:=hG40.trans (hG41.trans hG42)
 replace hB2:=hB2.mono hGz
 replace hB3:=hB3.mono hGz
 have hGz:=hG41.trans hG42
 replace hTc:=hTc.mono hGz
 replace hUc:=hUc.mono hGz
 replace hT:=hT.mono hG42
 refine Wu 1 [] hs rfl<|fE 2 [⟨0,44,fun G v=>v=Vp b2,Ft⟩,⟨1,45,fun G v=>v=.slice A1 t.cls.length c1,Ft⟩,⟨2,46,fun G v=>v=.agg (List.map Bx (Cv t.cls)).toArray,Ft⟩,⟨3,47,fun G v=>v=Vp b3,Ft⟩,⟨4,48,fun G v=>v=.slice A5 u.cls.length c5,Ft⟩,⟨5,49,fun G v=>v=.agg (List.map Bx (Cv u.cls)).toArray,Ft⟩,⟨6,7,fun G v=>Kb G v,Jt 80 (List.map Bx (List.replicate 256 0))⟩,⟨7,8,fun G v=>Kb G v,Jt 80 (List.map Bx (List.replicate 256 0))⟩] [(2,_),(3,_),(4,_),(6,_)] hs ⟨rfl,rfl,rfl,rfl,trivial⟩ rfl kR kR (Wq.mem ⟨fun _ _ _ _ h=>h,fun _ _ _ _ h=>h,fun _ _ _ _ h=>h,fun _ _ _ _ h=>h,fun _ _ _ _ h=>h,fun _ _ _ _ h=>h,fun _ _ _ _ h=>h,fun _ _ _ _ h=>h,trivial⟩) (Wq.mem ⟨?_,?_,?_,?_,?_,?_,?_,?_,trivial⟩) ?_
 ·
  refine ⟨_,rfl,rfl,rfl,fun G1 Hx L1 w1 hG1 hs hL hd=>?_⟩
  refine Ev [(2,_)] ⟨hL.1,trivial⟩<|S_y hs rfl (Fq rA.p rfl (m:=0) rfl ?_)
  exact ⟨_,gLr _,rfl,hs⟩
 ·
  refine ⟨_,rfl,rfl,rfl,fun G1 Hx L1 w1 hG1 hs hL hd=>?_⟩
  obtain ⟨u44,hv44,hR44⟩:=hd _ (AaF (i:=0) rfl) kR
  replace hR44:u44=Vp b2:=hR44
  subst hR44
  refine Ev [(44,_)] ⟨hv44,trivial⟩ ?_
  replace hB2:=hB2.mono hG1
  refine S_y hs rfl (Yd isAgg28 rfl (hB2 0 _ rfl) ?_)
  exact ⟨_,gLr _,rfl,hs⟩
 ·
  refine ⟨_,rfl,rfl,rfl,fun G1 Hx L1 w1 hG1 hs hL hd=>?_⟩
  obtain ⟨u45,hv45,hR45⟩:=hd _ (AaF (i:=1) rfl) kR
  replace hR45:u45=.slice A1 t.cls.length c1:=hR45
  subst hR45
  refine Ev [(45,_)] ⟨hv45,trivial⟩ ?_
  replace hTc:=hTc.mono hG1
  replace hT:=hT.mono hG1
  refine Et (H1:=[]) (H:=_::_::Hx) hs rfl func45 rfl kR (Jo hTc oM hT) fun v6 G' H' _ hR hG46 hs=>?_
  obtain ⟨rfl,rfl⟩:=hR
  replace hs:St _ _ (_::_::Hx) _:=hs
  exact ⟨_,hG46,rfl,hs⟩
 ·
  refine ⟨_,rfl,rfl,rfl,fun G1 Hx L1 w1 hG1 hs hL hd=>?_⟩
  refine Ev [(3,_)] ⟨hL.2.1,trivial⟩<|S_y hs rfl (Fq rA.p rfl (m:=0) rfl ?_)
  exact ⟨_,gLr _,rfl,hs⟩
 ·
  refine ⟨_,rfl,rfl,rfl,fun G1 Hx L1 w1 hG1 hs hL hd=>?_⟩
  obtain ⟨u47,hv47,hR47⟩:=hd _ (AaF (i:=3) rfl) kR
  replace hR47:u47=Vp b3:=hR47
  subst hR47
  refine Ev [(47,_)] ⟨hv47,trivial⟩ ?_
  replace hB3:=hB3.mono hG1
  refine S_y hs rfl (Yd isAgg28 rfl (hB3 0 _ rfl) ?_)
  exact ⟨_,gLr _,rfl,hs⟩
 ·
  refine ⟨_,rfl,rfl,rfl,fun G1 Hx L1 w1 hG1 hs hL hd=>?_⟩
  obtain ⟨u48,hv48,hR48⟩:=hd _ (AaF (i:=4) rfl) kR
  replace hR48:u48=.slice A5 u.cls.length c5:=hR48
  subst hR48
  refine Ev [(48,_)] ⟨hv48,trivial⟩ ?_
  replace hUc:=hUc.mono hG1
  replace hT:=hT.mono hG1
  refine Et (H1:=[]) (H:=_::_::Hx) hs rfl func45 rfl kR (Jo hUc oM hT) fun v7 G' H' _ hR hG49 hs=>?_
  obtain ⟨rfl,rfl⟩:=hR
  replace hs:St _ _ (_::_::Hx) _:=hs
  exact ⟨_,hG49,rfl,hs⟩
 ·
  refine ⟨_,rfl,rfl,rfl,fun G1 Hx L1 w1 hG1 hs hL hd=>?_⟩
  refine Ev [] trivial<|Bs hs zeroValue80 (cs:=(List.map Bx (List.replicate 256 0))) rfl fun b7 _ hs=>?_
  exact ⟨_,gLr _,⟨_,rfl⟩,hs⟩
 ·
  refine ⟨_,rfl,rfl,rfl,fun G1 Hx L1 w1 hG1 hs hL hd=>?_⟩
  refine Ev [] trivial<|Bs hs zeroValue80 (cs:=(List.map Bx (List.replicate 256 0))) rfl fun b8 _ hs=>?_
  exact ⟨_,gLr _,⟨_,rfl⟩,hs⟩
 intro G2 vals L2 w2 hG2 hs hL hv
 obtain ⟨hv46,hR46⟩:=hv _ (AaF (i:=2) rfl)
 replace hv46:Em L2 46=some (vals 2):=hv46
 replace hR46:(vals 2)=.agg (List.map Bx (Cv t.cls)).toArray:=hR46
 obtain ⟨hv49,hR49⟩:=hv _ (AaF (i:=5) rfl)
 replace hv49:Em L2 49=some (vals 5):=hv49
 replace hR49:(vals 5)=.agg (List.map Bx (Cv u.cls)).toArray:=hR49
 obtain ⟨hv7,hR7⟩:=hv _ (AaF (i:=6) rfl)
 replace hv7:Em L2 7=some (vals 6):=hv7
 replace hR7:Kb G2 (vals 6):=hR7
 obtain ⟨b7,hb7⟩:=hR7
 rw [hb7] at hv7
 obtain ⟨hv8,hR8⟩:=hv _ (AaF (i:=7) rfl)
 replace hv8:Em L2 8=some (vals 7):=hv8
 replace hR8:Kb G2 (vals 7):=hR8
 obtain ⟨b8,hb8⟩:=hR8
 rw [hb8] at hv8
 simp only [Ff,Aan,List.flatMap_nil,cond_true,Ft,Jt,fD,AbA,AaX,Abc,List.singleton_append,hb7,hb8] at hs
 obtain ⟨u46,hu46⟩:∃ u,u=vals 2:=⟨_,rfl⟩
 rw [← hu46] at hv46 hR46
 clear hu46
 subst hR46
 obtain ⟨u49,hu49⟩:∃ u,u=vals 5:=⟨_,rfl⟩
 rw [← hu49] at hv49 hR49
 clear hu49
 subst hR49
 refine pS [(46,_),(49,_),(7,_),(8,_),(2,_),(3,_),(4,_),(6,_)] ⟨hv46,hv49,hv7,hv8,hL.1,hL.2.1,hL.2.2.1,hL.2.2.2.1,trivial⟩<|Xn 8 rfl (Sw hs.f2 rfl (vs:=(List.map Bx (Cv t.cls))) Z4 Z4 (Hb) fun _ hs=>Xn 9 rfl (Sw hs.f3 rfl (vs:=(List.map Bx (Cv u.cls))) Z4 Z4 (Hb) fun _ hs=>Xe (Zk [2,3,4,6,7,8] rfl<|Wt 2 [] hs rfl<|O_s (Fm hs fun b50 _ hs =>Zy hs (Dr underlying97 sizeOf3 zeroValue97 rfl rfl (cs:=[_,_]) rfl<|O_n (fC (ks:=([]:List (Nat×Nat))) (a:=(0,0)) (enc:=Gx) hs underlying98 keyQ7 Aaz (by simp [Bc]) rfl rfl rfl fun _ hs =>Wp 5 [0] hs rfl<|Zy hs (Dr underlying97 sizeOf3 zeroValue97 rfl rfl (cs:=[_,_]) rfl ?_)))))))
 refine O_s (Bw hs underlying99 sizeOf97 zeroValue97 rfl rfl dC dC rfl (cs:=[_,_]) rfl rfl fun v8 _ hs _ =>Wp 7 [0,0] hs rfl ?_)
 have hs:=hs.f3
 obtain ⟨_,hGbhB7,hB7,hs⟩:=hs.fixBlk (fun k _=>Gb k)
 replace hB7:Cg _ b7 _:=hB7
 have hs:=hs.f2
 obtain ⟨_,hGbhB8,hB8,hs⟩:=hs.fixBlk (fun k _=>Gb k)
 replace hB8:Cg _ b8 _:=hB8
 have hs:=hs.nilRow 22 1
 have hs:=hs.nilRow 4 1
 have hs:=hs.nilRow 71 1
 have hs:=hs.f6.f3.f3.f3.f6.f5.f6
 obtain ⟨Gp0,hGp⟩:=hs.name
 subst hGp
 replace hTm:=hTm.mono (hG2.trans (hGbhB7.trans hGbhB8))
 have hTm_0:=hTm
 replace hTe:=hTe.mono (hG2.trans (hGbhB7.trans hGbhB8))
 have hTe_0:=hTe
 replace hTf:=hTf.mono (hG2.trans (hGbhB7.trans hGbhB8))
 have hTf_0:=hTf
 replace hTc:=hTc.mono (hG2.trans (hGbhB7.trans hGbhB8))
 have hTc_0:=hTc
 replace hUc:=hUc.mono (hG2.trans (hGbhB7.trans hGbhB8))
 have hUc_0:=hUc
 replace hUm:=hUm.mono (hG2.trans (hGbhB7.trans hGbhB8))
 have hUm_0:=hUm
 replace hUf:=hUf.mono (hG2.trans (hGbhB7.trans hGbhB8))
 have hUf_0:=hUf
 replace hUe:=hUe.mono (hG2.trans (hGbhB7.trans hGbhB8))
 have hUe_0:=hUe
 replace hT:=hT.mono (hG2.trans (hGbhB7.trans hGbhB8))
 have hT_0:=hT
 replace hB2:=hB2.mono (hG2.trans (hGbhB7.trans hGbhB8))
 have hB2_0:=hB2
 replace hB3:=hB3.mono (hG2.trans (hGbhB7.trans hGbhB8))
 have hB3_0:=hB3
 replace hB7:=hB7.mono hGbhB8
 have hB7_0:=hB7
 have hB8_0:=hB8
 replace hCC:=hCC.mono (hG2.trans (hGbhB7.trans hGbhB8))
 have hCC_0:=hCC
 refine Zl [2,3,4,6,7,8,9,10,11] (fun m E w=>∃ (f i:Nat) (l:List (Nat×Nat)) (rows:List (List Mv)) (vs ws:List Value) (vpr vm vf ve:Value) (G2:Ah),Cu Gp0 G2∧Us t u CC f i l rows=some (L,Rows)∧l.Nodup∧(∀ s∈l,Cn7.qqOk t u s)∧i≤l.length∧rows.length=i∧vs.length=i∧ws.length=i∧Wm G2 vs rows∧Tn G2 ws ((l.take i).map fun s=>(Iu t u s).getD [])∧m=f∧E=⟨[],[(2,Vp b2),(3,Vp b3),(4,Vp b4),(6,Vp b6),(7,Vp b7),(8,Vp b8),(9,.map (some b50)),(10,vpr),(11,Vi (i:Int))]⟩∧St ⟨w0,G,Bj []⟩ G2 [.obj b50 (.map (En Gx l).toArray l.length),.row 97 2 (vpr) l.length (ppF l),.blk b6 33 [.slice Acc CC.length ccc,vm,vf,ve],.row 71 1 (vm) i vs,.row 4 1 (vf) i (((l.take i).map fun s=>(Iu t u s).isSome).map Da),.row 22 1 (ve) i ws,.blk b4 33 [Vn,Vn,Vn,Vn]] w) rfl (⟨5000,0,[(0,0)],[],[],[],_,_,_,_,_,Cu.refl _,hexA,by simp,hok0,by simp,rfl,rfl,rfl,trivial,trivial,rfl,rfl,hs⟩) fun m E w hI=>?_
 obtain ⟨f,i,l,rows,vs,ws,vpr,vm,vf,ve,G2,hlg0,hex,hlnd,hlok,hil9,hrl9,hvl,hwl,hms,hws,rfl,rfl,hs⟩:=hI
 have hTm:=hTm_0.mono hlg0
 have hTe:=hTe_0.mono hlg0
 have hTf:=hTf_0.mono hlg0
 have hTc:=hTc_0.mono hlg0
 have hUc:=hUc_0.mono hlg0
 have hUm:=hUm_0.mono hlg0
 have hUf:=hUf_0.mono hlg0
 have hUe:=hUe_0.mono hlg0
 have hT:=hT_0.mono hlg0
 have hB2:=hB2_0.mono hlg0
 have hB3:=hB3_0.mono hlg0
 have hB7:=hB7_0.mono hlg0
 have hB8:=hB8_0.mono hlg0
 have hCC:=hCC_0.mono hlg0
 refine Wt 5 [] hs rfl<|Zy hs (Dl 1 rfl underlying99 rfl hs<|Zy hs (Yc rfl (fun h58=>?_) fun h58=>?_))
 ·
  refine Wp 3 [0] hs rfl ?_
  have hfp:=lA hex
  obtain ⟨f1,rfl⟩:∃ g,m=g+1:=⟨m-1,by omega⟩
  have hil:i<l.length:=by omega
  have hgo:=comG_go hil hex
  obtain ⟨⟨p,q⟩,hse⟩:∃ s,s=l[i]:=⟨_,rfl⟩
  rw [← hse] at hgo
  have hpq:=hlok _ (AaD hil)
  rw [← hse] at hpq
  obtain ⟨hpl,hql⟩:=hpq
  dsimp only at hpl hql
  have hlmx0:=qq_max htok hutok hlnd hlok
  obtain ⟨bl,capl,hzbl,_⟩:=hs.rowForm 1 rfl oM
  subst hzbl
  refine Wu 3 [] hs rfl<|Bg [0,1,2,3,4,5,6,7,8,9,10,11] hs kR ?_
  replace hs:=hs.drew
  refine Xr [0,1] [] hs rfl<|Xt 2 hs rfl (Cl i underlying99 sizeOf97 rfl rfl rfl hil<|Xt 3 hs rfl (Jh (m:=i*2) 0 underlying97 sizeOf3 rfl rfl rfl oM oM<|Xt 4 hs rfl (Sm (v:=Vi (p:Int)) 1 rfl isAgg3 rfl (by rw [(oO hil).1,← hse])<|Xr [5,6] [] hs rfl<|Xt 7 hs rfl (Cl i underlying99 sizeOf97 rfl rfl rfl hil<|Xt 8 hs rfl (Jh (m:=i*2+1) 1 underlying97 sizeOf3 rfl rfl rfl oM oM<|Xt 9 hs rfl (Sm (v:=Vi (q:Int)) 1 rfl isAgg3 rfl (by rw [(oO hil).2,← hse])<|Xr [10,11] [] hs rfl<|Xe (Zk [2,3,4,6,7,8,9,10,11,12,13] rfl<|Wu 5 [0,2] hs rfl<|O_s (pY (n:=CC.length) hs underlying71 TI74 rfl rfl rfl oM oM fun b74 _ hs=>?_))))))))
  replace hs:=Bh (H':=[.row 74 2 (Vs b74 CC.length CC.length) CC.length (Wl ([]++List.replicate (CC.length-0) (0,Vn))),_,_,_,_,_,_,_]) hs (by rw [show (Value.agg #[Value.int .i64 0,Vn]).cells.toList=[Vi 0,Vn] from rfl,mvL_rep];rfl)
  refine Wp 10 [0,0,3,0] hs rfl ?_
  have hs:=hs.f7.f7.f7.f7.f7.f7.f7.f7
  obtain ⟨Gp1,hGp⟩:=hs.name
  subst hGp
  have hTm_1:=hTm
  have hTe_1:=hTe
  have hTf_1:=hTf
  have hTc_1:=hTc
  have hUc_1:=hUc
  have hUm_1:=hUm
  have hUf_1:=hUf
  have hUe_1:=hUe
  have hT_1:=hT
  have hB2_1:=hB2
  have hB3_1:=hB3
  have hB7_1:=hB7
  have hB8_1:=hB8
  have hCC_1:=hCC
  have hlg0_1:=hlg0
  refine Zl [2,3,4,6,7,8,9,10,11,12,13,14,76,77,78] (fun m E w=>∃ (k:Nat) (l2:List (Nat×Nat)) (rw9:List Mv) (ms:List (Int×Value)) (vpr2:Value) (G2:Ah),Cu Gp1 G2∧k≤CC.length∧(l2,rw9)=(CC.take k).foldl (Tc t u (p,q)) (l,[])∧l2.Nodup∧(∀ s∈l2,Cn7.qqOk t u s)∧(∃ mx,l2=l++mx)∧ms.length=k∧MPs G2 ms rw9∧Wm G2 vs rows∧Tn G2 ws ((l.take i).map fun s=>(Iu t u s).getD [])∧m=CC.length-k∧E=⟨[],[(2,Vp b2),(3,Vp b3),(4,Vp b4),(6,Vp b6),(7,Vp b7),(8,Vp b8),(9,.map (some b50)),(10,vpr2),(11,Vi (i:Int)),(12,Vi (p:Int)),(13,Vi (q:Int)),(14,Vs b74 CC.length CC.length),(76,.slice Acc CC.length ccc),(77,Vi ((CC.length:Nat):Int)),(78,Vi (k:Int))]⟩∧St ⟨w0,G,Bj []⟩ G2 [.row 74 2 (Vs b74 CC.length CC.length) CC.length (Wl (ms++List.replicate (CC.length-k) (0,Vn))),.obj b50 (.map (En Gx l2).toArray l2.length),.row 97 2 (vpr2) l2.length (ppF l2),.blk b6 33 [.slice Acc CC.length ccc,vm,vf,ve],.row 71 1 (vm) i vs,.row 4 1 (vf) i (((l.take i).map fun s=>(Iu t u s).isSome).map Da),.row 22 1 (ve) i ws,.blk b4 33 [Vn,Vn,Vn,Vn]] w) rfl (⟨0,l,[],[],_,_,Cu.refl _,by omega,rfl,hlnd,hlok,⟨[],(AaX _).symm⟩,rfl,trivial,hms,hws,rfl,rfl,hs⟩) fun m E w hI=>?_
  obtain ⟨k,l2,rw9,ms,vpr2,G2,hlg1,hk9,hfo,hnd,hlok2,⟨mx,hl2⟩,hml,hmp,hms,hws,rfl,rfl,hs⟩:=hI
  have hTm:=hTm_1.mono hlg1
  have hTe:=hTe_1.mono hlg1
  have hTf:=hTf_1.mono hlg1
  have hTc:=hTc_1.mono hlg1
  have hUc:=hUc_1.mono hlg1
  have hUm:=hUm_1.mono hlg1
  have hUf:=hUf_1.mono hlg1
  have hUe:=hUe_1.mono hlg1
  have hT:=hT_1.mono hlg1
  have hB2:=hB2_1.mono hlg1
  have hB3:=hB3_1.mono hlg1
  have hB7:=hB7_1.mono hlg1
  have hB8:=hB8_1.mono hlg1
  have hCC:=hCC_1.mono hlg1
  have hlg0:=hlg0_1.mono hlg1
  have hlmx:=qq_max htok hutok hnd hlok2
  refine Wt 2 [] hs rfl<|Zy hs (Yc rfl (fun h79=>?_) fun h79=>?_)
  ·
   refine Wp 9 [0] hs rfl<|Zy hs (Ca hCC k underlying28 sizeOf86 rfl rfl rfl oM fun p81 cc81 hp81 hc81 hR81=>?_)
   obtain ⟨c,hce9⟩:∃ q9,CC[k]'oM=q9:=⟨_,rfl⟩
   rw [hce9] at hR81
   obtain ⟨rfl,_,_⟩:=hR81
   have hcm:c∈CC:=by rw [← hce9];exact AaD _
   have hc4:=hptc.c4 c hcm
   refine Zy hs (Db (vs:=List.map Bb c) isAgg86 sizeOf86 rfl hp81 hc81<|O_s (Bs hs zeroValue86 (cs:=(List.map Bb [0,0,0,0])) rfl fun b16 _ hs =>Wp 1 [] hs rfl<|O_n (Sw hs rfl (vs:=(List.map Bb c)) Z4 Z4 (Dk _) fun _ hs=>Wp 1 [0] hs rfl ?_)))
   obtain ⟨x,hx0,hxe⟩:=bO hc4 (hptc.ne c hcm)
   refine Wu 2 [] hs rfl<|Zy hs (Yk 0 rfl (by rw [AaC,hc4.1])<|O_s (Sp (aZ hc4.1 hc4.2 hT hx0) hs rfl fun v9 G' _ hR hG84 hs=>?_))
   obtain rfl:=hR
   refine Zy hs (Dj underlying3 underlying5 (c:=(x.toNat:Int)) rfl (u8w7 _)<|Wp 2 [17,2,3,4,6,7,8,9,10,11,12,13,14,15,17,76,77,78] hs rfl ?_)
   have hlx:UInt8.ofNat (Io c)=x:=by rw [hxe];exact Cn7.o8 x
   obtain ⟨rr,herr⟩:∃ q9,t.moves[p]'hpl=q9:=⟨_,rfl⟩
   have hlrr:=htok.row rr Z42
   obtain ⟨ci,hce⟩:∃ z,z=(Cv t.cls).getD x.toNat 0:=⟨_,rfl⟩
   have hci:ci<t.cls.length:=by rw [hce];exact htok.cell x
   obtain ⟨mv,hmv⟩:∃ q9,rr[ci]'oM=q9:=⟨_,rfl⟩
   have hmF:Dv t p x=mv:=by unfold Dv;rw [← hce,Cn7.gD hpl,herr,Cn7.gD oM,hmv]
   have hmb:=htok.mv hpl x
   rw [hmF] at hmb
   refine Wu 1 [] hs rfl<|Bg [0,1,2,3,4,5,6,7,8,9,10] hs kR ?_
   replace hs:=hs.drew
   refine Xr [0] [1] hs rfl ?_
   replace hB2:=hB2.mono hG84
   refine Xt 1 hs rfl (Yg rfl (hB2 1 _ rfl)<|Xr [2] [] hs rfl ?_)
   replace hTm:=hTm.mono hG84
   refine Xt 3 hs rfl (Ca hTm p underlying29 sizeOf71 rfl rfl rfl oM fun p89 cc89 hp89 hc89 hR89=>?_)
   rw [herr] at hR89
   obtain ⟨u89,rfl,hrr⟩:=hR89
   obtain ⟨A89,c89,rfl⟩:=hrr.slice
   refine Xt 4 hs rfl (Yg rfl (hp89 0 _ rfl)<|Xr [5] [] hs rfl<|Xt 6 hs rfl (Bp (x.toNat) underlying80 sizeOf3 rfl rfl rfl x.toNat_lt ?_))
   replace hB7:=hB7.mono hG84
   refine Xt 7 hs rfl (Yg rfl (hB7 x.toNat (Bl ci) (by rw [hce];exact eK (Ch _) x.toNat_lt))<|Xt 8 hs rfl (Ca hrr ci underlying71 sizeOf74 rfl rfl rfl oM fun p94 cc94 hp94 hc94 hR94=>?_))
   rw [hmv] at hR94
   obtain ⟨u94,rfl,hpc⟩:=hR94
   obtain ⟨A94,c94,rfl⟩:=hpc.slice
   refine Xt 9 hs rfl (Db (vs:=[Vi mv.to,.slice A94 mv.out.length c94]) isAgg74 sizeOf74 rfl hp94 hc94 ?_)
   have hle:=hs.le
   refine Xo 10 rfl (Sa hs zeroValue74 rfl fun b18 _ hs=>Ai hs hle (gLr _) (Aax _ _)<|Xn 11 rfl (Sg hs rfl (rfl) fun _ hs=>Xe (Zk [2,3,4,6,7,8,9,10,11,12,13,14,15,17,18,76,77,78] rfl<|Wu 2 [] hs rfl ?_)))
   replace hB3:=hB3.mono hG84
   refine Zy hs (Db (vs:=[.slice A5 u.cls.length c5,.slice A6 u.moves.length c6,.slice A7 u.final.length c7,.slice A8 u.ends.length c8]) isAgg33 sizeOf33 rfl hB3.whole rfl ?_)
   replace hB8:=hB8.mono hG84
   refine Zy hs (Db (vs:=List.map Bx (Cv u.cls)) isAgg80 sizeOf80 rfl hB8.whole (by rw [AaC];exact Ch _)<|Wp 3 [0,0] hs rfl<|Zy hs (My rfl rfl rfl (decide_eq_true_iff.symm:(mv.to<0↔decide (mv.to<0)=true))<|Zy hs (Ce (zs:=(Pd (Vn) (Vn) (Vn) (Vn) (List.replicate 256 0) 0 (Vn) false)) zeroValue134 kR (pl:=[(0,4),(4,256),(260,1),(261,1),(262,1)]) kR rfl (cs:=(Pd (.slice A5 u.cls.length c5) (.slice A6 u.moves.length c6) (.slice A7 u.final.length c7) (.slice A8 u.ends.length c8) (Cv u.cls) q (Vn) (decide (mv.to<0)))) (fill263k (Ch _))<|O_s (Fj hs rfl (cs:=_) rfl fun b103 _ hs =>Wp 10 [19,2,3,4,6,7,8,9,10,11,12,13,14,15,17,18,19,76,77,78,1,1,0] hs rfl ?_))))
   have hs:=hs.nilRow 76 2
   have hs:=hs.f11.f11.f11.f11.f11.f11.f11.f11.f10.f9.f10
   obtain ⟨Gp2,hGp⟩:=hs.name
   subst hGp
   have hTm_2:=hTm
   replace hTe:=hTe.mono hG84
   have hTe_2:=hTe
   replace hTf:=hTf.mono hG84
   have hTf_2:=hTf
   replace hTc:=hTc.mono hG84
   have hTc_2:=hTc
   replace hUc:=hUc.mono hG84
   have hUc_2:=hUc
   replace hUm:=hUm.mono hG84
   have hUm_2:=hUm
   replace hUf:=hUf.mono hG84
   have hUf_2:=hUf
   replace hUe:=hUe.mono hG84
   have hUe_2:=hUe
   replace hT:=hT.mono hG84
   have hT_2:=hT
   have hB2_2:=hB2
   have hB3_2:=hB3
   have hB7_2:=hB7
   have hB8_2:=hB8
   replace hCC:=hCC.mono hG84
   have hCC_2:=hCC
   have hpc_2:=hpc
   replace hlg0:=hlg0.mono hG84
   have hlg0_2:=hlg0
   replace hlg1:=hlg1.mono hG84
   have hlg1_2:=hlg1
   replace hmp:=hmp.mono hG84
   replace hms:=hms.mono hG84
   replace hws:=hws.mono hG84
   refine Zl [2,3,4,6,7,8,9,10,11,12,13,14,15,17,18,19,76,77,78,105,106,107] (fun m E w=>∃ (j:Nat) (rd:dR) (vo:Value) (G2:Ah),Cu Gp2 G2∧j≤mv.out.length∧rd=(mv.out.take j).foldl (Of u x) ⟨q,[],decide (mv.to<0)⟩∧MPs G2 ms rw9∧Wm G2 vs rows∧Tn G2 ws ((l.take i).map fun s=>(Iu t u s).getD [])∧m=mv.out.length-j∧E=⟨[],[(2,Vp b2),(3,Vp b3),(4,Vp b4),(6,Vp b6),(7,Vp b7),(8,Vp b8),(9,.map (some b50)),(10,vpr2),(11,Vi (i:Int)),(12,Vi (p:Int)),(13,Vi (q:Int)),(14,Vs b74 CC.length CC.length),(15,Vi (k:Int)),(17,.int .u8 (x.toNat:Int)),(18,Vp b18),(19,Vp b103),(76,.slice Acc CC.length ccc),(77,Vi ((CC.length:Nat):Int)),(78,Vi (k:Int)),(105,.slice A94 mv.out.length c94),(106,Vi ((mv.out.length:Nat):Int)),(107,Vi (j:Int))]⟩∧St ⟨w0,G,Bj []⟩ G2 [.blk b103 134 (Pd (.slice A5 u.cls.length c5) (.slice A6 u.moves.length c6) (.slice A7 u.final.length c7) (.slice A8 u.ends.length c8) (Cv u.cls) rd.at_ vo rd.stuck),.row 76 2 (vo) rd.out.length (sA rd.out),.blk b18 74 [Vi mv.to,.slice A94 mv.out.length c94],.row 74 2 (Vs b74 CC.length CC.length) CC.length (Wl (ms++List.replicate (CC.length-k) (0,Vn))),.obj b50 (.map (En Gx l2).toArray l2.length),.row 97 2 (vpr2) l2.length (ppF l2),.blk b6 33 [.slice Acc CC.length ccc,vm,vf,ve],.row 71 1 (vm) i vs,.row 4 1 (vf) i (((l.take i).map fun s=>(Iu t u s).isSome).map Da),.row 22 1 (ve) i ws,.blk b4 33 [Vn,Vn,Vn,Vn]] w) rfl (⟨0,⟨q,[],decide (mv.to<0)⟩,_,_,Cu.refl _,by omega,rfl,hmp,hms,hws,rfl,rfl,hs.wk [_,_,_,_,_,_,_,_,_,_,_]⟩) fun m E w hI=>?_
   obtain ⟨j,rd,vo,G2,hlg2,hj9,hrd,hmp,hms,hws,rfl,rfl,hs⟩:=hI
   have hTm:=hTm_2.mono hlg2
   have hTe:=hTe_2.mono hlg2
   have hTf:=hTf_2.mono hlg2
   have hTc:=hTc_2.mono hlg2
   have hUc:=hUc_2.mono hlg2
   have hUm:=hUm_2.mono hlg2
   have hUf:=hUf_2.mono hlg2
   have hUe:=hUe_2.mono hlg2
   have hT:=hT_2.mono hlg2
   have hB2:=hB2_2.mono hlg2
   have hB3:=hB3_2.mono hlg2
   have hB7:=hB7_2.mono hlg2
   have hB8:=hB8_2.mono hlg2
   have hCC:=hCC_2.mono hlg2
   have hpc:=hpc_2.mono hlg2
   have hlg0:=hlg0_2.mono hlg2
   have hlg1:=hlg1_2.mono hlg2
   have hrq:rd.at_<u.moves.length:=by rw [hrd];exact Cn7.rd_lt hutok _ hql
   have hro:rd.out.length≤64:=by have:=oK hutok (like:=x) (mv.out.take j) (r:=⟨q,[],decide (mv.to<0)⟩) hql;rw [← hrd,Aag] at this;simp only [List.length_nil] at this;omega
   refine Wt 2 [] hs rfl<|Zy hs (Yc rfl (fun h108=>?_) fun h108=>?_)
   ·
    refine Wp 8 [0] hs rfl<|Zy hs (Ca hpc j underlying72 sizeOf76 rfl rfl rfl oM fun p109 cc109 hp109 hc109 hR109=>?_)
    obtain ⟨pp,hpe⟩:∃ z,mv.out[j]'oM=z:=⟨_,rfl⟩
    rw [hpe] at hR109
    obtain rfl:=hR109
    refine Zy hs (Db (vs:=[.bool pp.copy,.int .u8 (pp.b.toNat:Int)]) isAgg76 sizeOf76 rfl hp109 hc109<|O_s (Sa hs zeroValue76 rfl fun b21 _ hs=>O_n (Sg hs rfl (rfl) fun _ hs=>Wp 5 [23,2,3,4,6,7,8,9,10,11,12,13,14,15,17,18,19,21,76,77,78,105,106,107,0] hs rfl<|O_s (Sc (kY (rd:=rd) (p:=pp) (like:=x) hUm hutok hrq oM) hs.f2.f2 rfl fun v10 G' H' _ hR hG114 hs=>?_))))
    obtain ⟨vo2,rfl⟩:=hR
    replace hs:=hs.n rfl
    refine Wp 2 [22,2,3,4,6,7,8,9,10,11,12,13,14,15,17,18,19,76,77,78,105,106,107] hs rfl<|Zy hs (Ya (s:=((j+1:Nat):Int)) rfl<|Wp 1 [] hs rfl ?_)
    have hs:=hs.f11.f11.f11.f11.f11.f11.f11.f11.f11.f10.f10
    replace hmp:=hmp.mono hG114
    replace hms:=hms.mono hG114
    replace hws:=hws.mono hG114
    replace hlg2:=hlg2.mono hG114
    refine Zx [2,3,4,6,7,8,9,10,11,12,13,14,15,17,18,19,76,77,78,105,106,107] rfl ⟨j+1,Of u x rd pp,vo2,_,hlg2,by omega,by rw [Bu _ _ mv.out j oM,← hrd,hpe],hmp,hms,hws,rfl,rfl,hs.wk [_,_,_,_,_,_,_,_,_,_,_]⟩
   refine Wp 4 [0] hs rfl ?_
   obtain rfl:j=mv.out.length:=by omega
   rw [Aaj] at hrd
   have hcR:Li t u (p,q) x=rd:=by rw [hrd];unfold Li;rw [hmF]
   obtain ⟨sk,hskr⟩:∃ s,rd.stuck=s:=⟨_,rfl⟩
   refine Wu 4 [] hs rfl<|Zy hs (Ci rfl<|Wp 1 [262] hs rfl<|Zy hs (Ej 0 isAgg4 rfl rfl (by rw [hskr];exact (Hi (j:=2) (Ch _))) ?_))
   cases sk
   ·
    refine Wp 3 [19,2,3,4,6,7,8,9,10,11,12,13,14,15,18,19,76,77,78,119] hs rfl ?_
    have hmt:¬ mv.to<0:=of_decide_eq_false (vG (by rw [← hrd];exact hskr))
    obtain ⟨tn,htn⟩:∃ n:Nat,mv.to=(n:Int):=⟨mv.to.toNat,by omega⟩
    have htq:Cn7.qqOk t u (tn,rd.at_):=⟨by show tn<_;omega,hrq⟩
    refine Wu 1 [] hs rfl<|Bg [0,1,2,3,4,5,6,7] hs kR ?_
    replace hs:=hs.drew
    refine Xr [0] [0] hs rfl<|Xt 1 hs rfl (Ej (v:=Bl tn) 2 isAgg3 rfl rfl (by rw [htn];rfl)<|Xr [2] [] hs rfl<|Xt 3 hs rfl (Ci rfl<|Xr [4] [260] hs rfl<|Xt 5 hs rfl (Ej 0 isAgg3 rfl rfl (Hi (j:=0) (Ch _))<|Xt 6 hs rfl (Dr underlying97 sizeOf3 zeroValue97 rfl rfl (cs:=[_,_]) rfl ?_))))
    have hle:=hs.le
    refine Xo 7 rfl (Sa hs zeroValue97 rfl fun b22 _ hs=>Ai hs hle (gLr _) (Aax _ _)<|Xn 8 rfl (Sg hs rfl (rfl) fun _ hs=>Xe (Zk [2,3,4,6,7,8,9,10,11,12,13,14,15,19,22,76,77,78] rfl<|Wu 4 [0] hs rfl<|Zy hs (Fp (a:=(tn,rd.at_)) 5 rfl underlying98 keyQ7 zeroValue3 hnd rfl rfl (fun hno=>?_) (fun hyes=>?_)))))
    ·
     refine Wp 16 [20,2,3,4,6,7,8,9,10,11,12,13,14,15,19,22,23,24,76,77,78,0] hs rfl<|Zy hs (Dl 6 rfl underlying99 rfl hs<|Wp 7 [19,2,3,4,6,7,8,9,10,11,12,13,14,15,19,22,23,76,77,78,0] hs rfl<|O_n (Ks (a:=(tn,rd.at_)) hs.f5 underlying98 keyQ7 hnd hno rfl rfl rfl fun _ hs =>Wp 4 [0,1] hs rfl<|O_s (Bw hs underlying99 sizeOf97 zeroValue97 rfl rfl dC dC rfl (cs:=[_,_]) rfl rfl fun v11 _ hs _=>?_)))
     obtain ⟨_,hG146,hl146,hs⟩:=hs.fixRow noM
     refine O_s (Au hs.f6 underlying99 TI97 rfl dC rfl rfl (hl146) (gI) oM oM fun v12 _ hs =>Wp 2 [18,2,3,4,6,7,8,9,10,11,12,13,14,15,19,23,76,77,78] hs rfl ?_)
     have hs:=hs.f4
     obtain ⟨_,hG_hpo,hpo,hs⟩:=hs.fixRow noM
     have hpcs:=Vk hpo
     clear hpo
     have hsK:=hs
     clear hs
     obtain ⟨Ao,co,rfl⟩:=hpcs.slice
     have hs:=hsK
     clear hsK
     refine Wu 5 [] hs rfl<|Zy hs (Ci rfl<|Wp 1 [261] hs rfl<|Zy hs (Ej 3 isAgg72 rfl rfl (Hi (j:=1) (Ch _))<|Zy hs (Ce zeroValue74 rfl PL74 rfl (cs:=[_,_]) rfl<|Zy hs (Cl k underlying71 sizeOf74 rfl rfl rfl oM<|O_n (Gw (vs:=[Vi (l2.length:Int),.slice Ao rd.out.length co]) hs.f5 sizeOf74 rfl rfl rfl rfl oM fun _ hs=>?_)))))
     rw [sE hml oM] at hs
     refine Wp 2 [15,2,3,4,6,7,8,9,10,11,12,13,14,76,77,78] hs rfl<|Zy hs (Ya (s:=((k+1:Nat):Int)) rfl<|Wp 1 [] hs rfl ?_)
     have hs:=hs.f10.f10.f10.f10.f10.f6.f7.f7
     have hGz:=hG146.trans hG_hpo
     replace hmp:=hmp.mono hGz
     replace hms:=hms.mono hGz
     replace hws:=hws.mono hGz
     replace hlg1:=hlg1.mono hGz
     refine Zx [2,3,4,6,7,8,9,10,11,12,13,14,76,77,78] rfl ⟨k+1,l2++[(tn,rd.at_)],rw9++[⟨(l2.length:Nat),rd.out⟩],ms++[(((l2.length:Nat):Int),Value.slice Ao rd.out.length co)],v12,_,hlg1,by omega,by rw [Bu _ _ CC k oM,← hfo,hce9];exact (comP_n hlx hcR hskr (by show (Dv t p x).to=_;rw [hmF,htn]) hno).symm,Ix hnd hno,fun s hs9=>(by rcases AaS.1 hs9 with h9 | h9;exact hlok2 s h9;rw [AaE.1 h9];exact htq),⟨mx++[(tn,rd.at_)],by rw [hl2,AaI]⟩,by rw [AaB,hml];rfl,Cw.snoc hmp ⟨rfl,hpcs⟩,hms,hws,rfl,rfl,Bh (hs.wk [_,_,_,_,_,_,_,_]) (by simp [ppF_snoc,Bl])⟩
    refine Wp 14 [20,2,3,4,6,7,8,9,10,11,12,13,14,15,19,22,23,24,76,77,78,0] hs rfl ?_
    have hs:=hs.f2
    obtain ⟨_,hG_hpo,hpo,hs⟩:=hs.fixRow noM
    have hpcs:=Vk hpo
    clear hpo
    have hsK:=hs
    clear hs
    obtain ⟨Ao,co,rfl⟩:=hpcs.slice
    have hs:=hsK
    clear hsK
    refine Wu 5 [] hs rfl<|Zy hs (Ci rfl<|Wp 1 [261] hs rfl<|Zy hs (Ej 1 isAgg72 rfl rfl (Hi (j:=1) (Ch _))<|Zy hs (Ce zeroValue74 rfl PL74 rfl (cs:=[_,_]) rfl<|Zy hs (Cl k underlying71 sizeOf74 rfl rfl rfl oM<|O_n (Gw (vs:=[Vi ((Bc (tn,rd.at_) l2):Int),.slice Ao rd.out.length co]) hs.f3 sizeOf74 rfl rfl rfl rfl oM fun _ hs=>?_)))))
    rw [sE hml oM] at hs
    refine Wp 2 [15,2,3,4,6,7,8,9,10,11,12,13,14,76,77,78] hs rfl<|Zy hs (Ya (s:=((k+1:Nat):Int)) rfl<|Wp 1 [] hs rfl ?_)
    have hs:=hs.f10.f10.f10.f10.f10.f10.f10.f7
    replace hmp:=hmp.mono hG_hpo
    replace hms:=hms.mono hG_hpo
    replace hws:=hws.mono hG_hpo
    replace hlg1:=hlg1.mono hG_hpo
    refine Zx [2,3,4,6,7,8,9,10,11,12,13,14,76,77,78] rfl ⟨k+1,l2,rw9++[⟨(Bc (tn,rd.at_) l2:Nat),rd.out⟩],ms++[(((Bc (tn,rd.at_) l2:Nat):Int),Value.slice Ao rd.out.length co)],vpr2,_,hlg1,by omega,by rw [Bu _ _ CC k oM,← hfo,hce9];exact (comP_o hlx hcR hskr (by show (Dv t p x).to=_;rw [hmF,htn]) hyes).symm,hnd,hlok2,⟨mx,hl2⟩,by rw [AaB,hml];rfl,Cw.snoc hmp ⟨rfl,hpcs⟩,hms,hws,rfl,rfl,(hs.wk [_,_,_,_,_,_,_,_])⟩
   refine Wp 6 [19,2,3,4,6,7,8,9,10,11,12,13,14,15,18,19,76,77,78,119] hs rfl<|Zy hs (Cl k underlying71 sizeOf74 rfl rfl rfl oM<|Zy hs (Yf (k * 2) rfl<|O_n (wO hs.f3 sizeOf3 rfl rfl rfl oM fun _ hs=>?_)))
   rw [mvL_set hml oM] at hs
   refine Wp 3 [0] hs rfl<|Zy hs (Ya (s:=((k+1:Nat):Int)) rfl<|Wp 1 [] hs rfl ?_)
   have hs:=hs.f10.f10.f10.f10.f10.f10.f10.f7
   refine Zx [2,3,4,6,7,8,9,10,11,12,13,14,76,77,78] rfl ⟨k+1,l2,rw9++[(⟨-1,[]⟩:Mv)],ms++[((-1:Int),Value.slice none 0 0)],vpr2,_,hlg1,by omega,by rw [Bu _ _ CC k oM,← hfo,hce9];exact (comP_s hlx hcR hskr).symm,hnd,hlok2,⟨mx,hl2⟩,by rw [AaB,hml];rfl,Cw.snoc (R:=MvP _) (a:=((-1:Int),Value.slice none 0 0)) (b:=(⟨-1,[]⟩:Mv)) hmp ⟨rfl,Bi.nil⟩,hms,hws,rfl,rfl,(hs.wk [_,_,_,_,_,_,_,_])⟩
  refine Wp 4 [0] hs rfl ?_
  obtain rfl:k=CC.length:=by omega
  rw [Aaw,AbH,AaX] at hs
  obtain ⟨_,hG_hrow,hrow,hs⟩:=hs.fixRow noM
  replace hmp:=hmp.mono hG_hrow
  have hrwl:rw9.length=CC.length:=by rw [← hml];exact (Cw.length hmp).symm
  have hmr:=gP hrow hrwl.symm hmp
  clear hrow
  rw [Aaj] at hfo
  rw [← hfo] at hgo
  have htk1:=Pe hil hl2 hse
  refine Wu 2 [] hs rfl ?_
  replace hB2:=hB2.mono hG_hrow
  refine Zy hs (Db (vs:=[.slice A1 t.cls.length c1,.slice A2 t.moves.length c2,.slice A3 t.final.length c3,.slice A4 t.ends.length c4]) isAgg33 sizeOf33 rfl hB2.whole rfl ?_)
  replace hB3:=hB3.mono hG_hrow
  refine Zy hs (Db (vs:=[.slice A5 u.cls.length c5,.slice A6 u.moves.length c6,.slice A7 u.final.length c7,.slice A8 u.ends.length c8]) isAgg33 sizeOf33 rfl hB3.whole rfl<|Wp 2 [] hs rfl ?_)
  replace hTm:=hTm.mono hG_hrow
  replace hTe:=hTe.mono hG_hrow
  replace hTf:=hTf.mono hG_hrow
  replace hTc:=hTc.mono hG_hrow
  replace hUc:=hUc.mono hG_hrow
  replace hUm:=hUm.mono hG_hrow
  replace hUf:=hUf.mono hG_hrow
  replace hUe:=hUe.mono hG_hrow
  replace hT:=hT.mono hG_hrow
  refine O_s (Sp (end7_ok ⟨_,_,_,_,rfl,hTc,hTm,hTf,hTe⟩ ⟨_,_,_,_,rfl,hUc,hUm,hUf,hUe⟩ htok hutok hpl hql hT) hs rfl fun v13 G' _ hR hG163 hs=>?_)
  obtain ⟨wv,rfl,hwb⟩:=hR
  obtain ⟨Aw,cw,rfl,_⟩:=id hwb
  refine Wp 6 [12,2,3,4,6,7,8,9,10,11,14,25,26] hs rfl ?_
  have hs:=hs.f6.f6.f6.f6.f6.f6.f6
  obtain ⟨GpJ34,hGp⟩:=hs.name
  subst hGp
  replace hTm:=hTm.mono hG163
  have hTm_J34:=hTm
  replace hTe:=hTe.mono hG163
  have hTe_J34:=hTe
  replace hTf:=hTf.mono hG163
  have hTf_J34:=hTf
  replace hTc:=hTc.mono hG163
  have hTc_J34:=hTc
  replace hUc:=hUc.mono hG163
  have hUc_J34:=hUc
  replace hUm:=hUm.mono hG163
  have hUm_J34:=hUm
  replace hUf:=hUf.mono hG163
  have hUf_J34:=hUf
  replace hUe:=hUe.mono hG163
  have hUe_J34:=hUe
  replace hT:=hT.mono hG163
  have hT_J34:=hT
  replace hB2:=hB2.mono hG163
  have hB2_J34:=hB2
  replace hB3:=hB3.mono hG163
  have hB3_J34:=hB3
  replace hB7:=hB7.mono (hG_hrow.trans hG163)
  have hB7_J34:=hB7
  replace hB8:=hB8.mono (hG_hrow.trans hG163)
  have hB8_J34:=hB8
  replace hCC:=hCC.mono (hG_hrow.trans hG163)
  have hCC_J34:=hCC
  replace hms:=hms.mono (hG_hrow.trans hG163)
  have hms_J34:=hms
  replace hws:=hws.mono (hG_hrow.trans hG163)
  have hws_J34:=hws
  replace hmr:=hmr.mono hG163
  have hmr_J34:=hmr
  have hwb_J34:=hwb
  replace hlg0:=hlg0.mono (hG_hrow.trans hG163)
  have hlg0_J34:=hlg0
  replace hlg1:=hlg1.mono (hG_hrow.trans hG163)
  have hlg1_J34:=hlg1
  have hlgJ34:=Cu.refl GpJ34
  refine Lo (fun E w=>∃ (vm2 vf2 ve2:Value) (G2:Ah),Cu GpJ34 G2∧E=⟨[],[(2,Vp b2),(3,Vp b3),(4,Vp b4),(6,Vp b6),(7,Vp b7),(8,Vp b8),(9,.map (some b50)),(10,vpr2),(11,Vi (i:Int))]⟩∧St ⟨w0,G,Bj []⟩ G2 [.obj b50 (.map (En Gx l2).toArray l2.length),.row 97 2 (vpr2) l2.length (ppF l2),.blk b6 33 [.slice Acc CC.length ccc,vm2,vf2,ve2],.row 71 1 (vm2) (i+1) (vs++[Vs b74 CC.length CC.length]),.row 4 1 (vf2) (i+1) ((((l.take i).map fun s=>(Iu t u s).isSome)++[(Iu t u (p,q)).isSome]).map Da),.row 22 1 (ve2) (i+1) (ws++[.slice Aw ((Iu t u (p,q)).getD []).length cw]),.blk b4 33 [Vn,Vn,Vn,Vn]] w) ?_ ?_
  ·
   have hs:=hs.f5.f5.f5
   have hsW:=hs.d3
   refine Bg [0,1,2,3,4,5,6,7,8,9,10,11,12,13,14,15] hsW kR ?_
   replace hs:=hs.drew
   replace hsW:=hsW.drew
   refine Xr [0] [1] hsW rfl<|Xt 1 hsW rfl (Ej 2 isAgg29 rfl rfl (rfl)<|Xr [2,5] [2] hsW rfl<|Xt 6 hsW rfl (Ej 2 isAgg30 rfl rfl (rfl)<|Xr [7,10] [3] hsW rfl<|Xt 11 hsW rfl (Ej 2 isAgg31 rfl rfl (rfl)<|Xr [12] [] hsW rfl<|pR 3 8 13 rfl rfl rfl kR rfl rfl rfl ?_ ?_ ?_)))
   ·
    have hle:=hs.le
    refine Bw hs underlying29 sizeOf71 zeroValue71 rfl rfl dC dC rfl (cs:=[_]) rfl rfl fun v14 _ hs _=>?_
    obtain ⟨_,hG169,hl169,hs⟩:=hs.fixRow noM
    have hs:=hs.f2.f2.f2
    have hsW:=hs.d3
    replace hlgJ34:=hlgJ34.mono hG169
    refine Ai hsW hle hG169 (lSr _)<|pR 4 8 13 rfl rfl rfl kR rfl rfl rfl ?_ ?_ ?_
    ·
     have hle:=hs.le
     refine Au hs underlying29 Tm rfl dC rfl rfl (hl169) (Cp rfl) oM oM fun v15 _ hs=>?_
     have hs:=hs.f2.f2.f2
     have hsW:=hs.d3
     refine Ai hsW hle (gLr _) (lSr _)<|Xr [15] [1] hsW rfl<|Oi 8 13 rfl rfl kR rfl rfl ?_ ?_
     ·
      have hle:=hs.le
      refine Bw hs underlying30 sizeOf4 zeroValue4 rfl rfl dC dC rfl (cs:=[_]) rfl rfl fun v16 _ hs _=>?_
      obtain ⟨_,hG174,hl174,hs⟩:=hs.fixRow noM
      have hs:=hs.f2.f2.f2
      have hsW:=hs.d3
      replace hlgJ34:=hlgJ34.mono hG174
      refine Ai hsW hle hG174 (lSr _)<|Oi 9 13 rfl rfl kR rfl rfl ?_ ?_
      ·
       have hs:=hs.f1
       have hle:=hs.le
       refine Au hs underlying30 Pw rfl dC rfl rfl (hl174) (Cp rfl) oM oM fun v17 _ hs=>?_
       have hs:=hs.f2.f2.f2
       have hsW:=hs.d3
       refine Ai hsW hle (gLr _) (lSr _) ?_
       have hle:=hs.le
       refine Xo 13 rfl (Bw hs underlying31 sizeOf22 zeroValue22 rfl rfl dC dC rfl (cs:=[_]) rfl rfl fun v18 _ hs _=>?_)
       obtain ⟨_,hG179,hl179,hs⟩:=hs.fixRow noM
       have hs:=hs.f2.f2.f2
       have hsW:=hs.d3
       replace hlgJ34:=hlgJ34.mono hG179
       refine Ai hsW hle hG179 (lSr _) ?_
       have hs:=hs.f2
       have hle:=hs.le
       refine Xo 14 rfl (Au hs underlying31 Od rfl dC rfl rfl (hl179) (Cp rfl) oM oM fun v19 _ hs=>?_)
       have hs:=hs.f2.f2.f2
       have hsW:=hs.d3
       refine Ai hsW hle (gLr _) (lSr _)<|Xn 16 rfl (Sd hs.f5 rfl (hs.f5.rowOne 3 rfl) fun _ hs=>Xa 17 rfl (S_y hs rfl (Yf 2 rfl<|Xn 18 rfl (Sd hs rfl (hs.rowOne 2 rfl) fun _ hs=>Xa 19 rfl (S_y hs rfl (Yf 3 rfl<|Xn 20 rfl (Sd hs rfl (hs.rowOne 1 rfl) fun _ hs=>?_)))))))
       have hs:=hs.f6.f2.f3.f4.f4.f6.f6
       exact Fu kR (⟨[(2,_),(3,_),(4,_),(6,_),(7,_),(8,_),(9,_),(10,_),(11,_)],⟨rfl,rfl,rfl,rfl,rfl,rfl,rfl,rfl,rfl,trivial⟩,⟨v15,v17,v19,_,hlgJ34,rfl,Bh (hs.wk [_,_,_,_,_,_,_]) mK⟩⟩)
      have hle:=hs.le
      refine Bw hs underlying31 sizeOf22 zeroValue22 rfl rfl dC dC rfl (cs:=[_]) rfl rfl fun v20 _ hs _=>?_
      obtain ⟨_,hG179,hl179,hs⟩:=hs.fixRow noM
      have hs:=hs.f2.f2.f2
      have hsW:=hs.d3
      replace hlgJ34:=hlgJ34.mono hG179
      replace hl174:=hl174.mono hG179
      refine Ai hsW hle hG179 (lSr _) ?_
      have hs:=hs.f1
      have hle:=hs.le
      refine Xo 9 rfl (Au hs underlying30 Pw rfl dC rfl rfl (hl174) (Cp rfl) oM oM fun v21 _ hs=>?_)
      have hs:=hs.f2.f2.f2
      have hsW:=hs.d3
      refine Ai hsW hle (gLr _) (lSr _) ?_
      have hs:=hs.f2
      have hle:=hs.le
      refine Xo 14 rfl (Au hs underlying31 Od rfl dC rfl rfl (hl179) (Cp rfl) oM oM fun v22 _ hs=>?_)
      have hs:=hs.f2.f2.f2
      have hsW:=hs.d3
      refine Ai hsW hle (gLr _) (lSr _)<|Xn 16 rfl (Sd hs.f5 rfl (hs.f5.rowOne 3 rfl) fun _ hs=>Xa 17 rfl (S_y hs rfl (Yf 2 rfl<|Xn 18 rfl (Sd hs rfl (hs.rowOne 2 rfl) fun _ hs=>Xa 19 rfl (S_y hs rfl (Yf 3 rfl<|Xn 20 rfl (Sd hs rfl (hs.rowOne 1 rfl) fun _ hs=>?_)))))))
      have hs:=hs.f6.f2.f3.f4.f4.f6.f6
      exact Fu kR (⟨[(2,_),(3,_),(4,_),(6,_),(7,_),(8,_),(9,_),(10,_),(11,_)],⟨rfl,rfl,rfl,rfl,rfl,rfl,rfl,rfl,rfl,trivial⟩,⟨v15,v21,v22,_,hlgJ34,rfl,Bh (hs.wk [_,_,_,_,_,_,_]) mK⟩⟩)
     have hle:=hs.le
     refine Bw hs underlying31 sizeOf22 zeroValue22 rfl rfl dC dC rfl (cs:=[_]) rfl rfl fun v23 _ hs _=>?_
     obtain ⟨_,hG179,hl179,hs⟩:=hs.fixRow noM
     have hs:=hs.f2.f2.f2
     have hsW:=hs.d3
     replace hlgJ34:=hlgJ34.mono hG179
     refine Ai hsW hle hG179 (lSr _) ?_
     have hle:=hs.le
     refine Xo 8 rfl (Bw hs underlying30 sizeOf4 zeroValue4 rfl rfl dC dC rfl (cs:=[_]) rfl rfl fun v24 _ hs _=>?_)
     obtain ⟨_,hG174,hl174,hs⟩:=hs.fixRow noM
     have hs:=hs.f2.f2.f2
     have hsW:=hs.d3
     replace hlgJ34:=hlgJ34.mono hG174
     replace hl179:=hl179.mono hG174
     refine Ai hsW hle hG174 (lSr _) ?_
     have hs:=hs.f1
     have hle:=hs.le
     refine Xo 9 rfl (Au hs underlying30 Pw rfl dC rfl rfl (hl174) (Cp rfl) oM oM fun v25 _ hs=>?_)
     have hs:=hs.f2.f2.f2
     have hsW:=hs.d3
     refine Ai hsW hle (gLr _) (lSr _) ?_
     have hs:=hs.f2
     have hle:=hs.le
     refine Xo 14 rfl (Au hs underlying31 Od rfl dC rfl rfl (hl179) (Cp rfl) oM oM fun v26 _ hs=>?_)
     have hs:=hs.f2.f2.f2
     have hsW:=hs.d3
     refine Ai hsW hle (gLr _) (lSr _)<|Xn 16 rfl (Sd hs.f5 rfl (hs.f5.rowOne 3 rfl) fun _ hs=>Xa 17 rfl (S_y hs rfl (Yf 2 rfl<|Xn 18 rfl (Sd hs rfl (hs.rowOne 2 rfl) fun _ hs=>Xa 19 rfl (S_y hs rfl (Yf 3 rfl<|Xn 20 rfl (Sd hs rfl (hs.rowOne 1 rfl) fun _ hs=>?_)))))))
     have hs:=hs.f6.f2.f3.f4.f4.f6.f6
     exact Fu kR (⟨[(2,_),(3,_),(4,_),(6,_),(7,_),(8,_),(9,_),(10,_),(11,_)],⟨rfl,rfl,rfl,rfl,rfl,rfl,rfl,rfl,rfl,trivial⟩,⟨v15,v25,v26,_,hlgJ34,rfl,Bh (hs.wk [_,_,_,_,_,_,_]) mK⟩⟩)
    ·
     have hle:=hs.le
     refine Bw hs underlying30 sizeOf4 zeroValue4 rfl rfl dC dC rfl (cs:=[_]) rfl rfl fun v27 _ hs _=>?_
     obtain ⟨_,hG174,hl174,hs⟩:=hs.fixRow noM
     have hs:=hs.f2.f2.f2
     have hsW:=hs.d3
     replace hlgJ34:=hlgJ34.mono hG174
     replace hl169:=hl169.mono hG174
     refine Ai hsW hle hG174 (lSr _)<|Oi 4 13 rfl rfl kR rfl rfl ?_ ?_
     ·
      have hle:=hs.le
      refine Au hs underlying29 Tm rfl dC rfl rfl (hl169) (Cp rfl) oM oM fun v28 _ hs=>?_
      have hs:=hs.f2.f2.f2
      have hsW:=hs.d3
      refine Ai hsW hle (gLr _) (lSr _)<|Xr [15] [1] hsW rfl<|Oi 9 13 rfl rfl kR rfl rfl ?_ ?_
      ·
       have hs:=hs.f1
       have hle:=hs.le
       refine Au hs underlying30 Pw rfl dC rfl rfl (hl174) (Cp rfl) oM oM fun v29 _ hs=>?_
       have hs:=hs.f2.f2.f2
       have hsW:=hs.d3
       refine Ai hsW hle (gLr _) (lSr _) ?_
       have hle:=hs.le
       refine Xo 13 rfl (Bw hs underlying31 sizeOf22 zeroValue22 rfl rfl dC dC rfl (cs:=[_]) rfl rfl fun v30 _ hs _=>?_)
       obtain ⟨_,hG179,hl179,hs⟩:=hs.fixRow noM
       have hs:=hs.f2.f2.f2
       have hsW:=hs.d3
       replace hlgJ34:=hlgJ34.mono hG179
       refine Ai hsW hle hG179 (lSr _) ?_
       have hs:=hs.f2
       have hle:=hs.le
       refine Xo 14 rfl (Au hs underlying31 Od rfl dC rfl rfl (hl179) (Cp rfl) oM oM fun v31 _ hs=>?_)
       have hs:=hs.f2.f2.f2
       have hsW:=hs.d3
       refine Ai hsW hle (gLr _) (lSr _)<|Xn 16 rfl (Sd hs.f5 rfl (hs.f5.rowOne 3 rfl) fun _ hs=>Xa 17 rfl (S_y hs rfl (Yf 2 rfl<|Xn 18 rfl (Sd hs rfl (hs.rowOne 2 rfl) fun _ hs=>Xa 19 rfl (S_y hs rfl (Yf 3 rfl<|Xn 20 rfl (Sd hs rfl (hs.rowOne 1 rfl) fun _ hs=>?_)))))))
       have hs:=hs.f6.f2.f3.f4.f4.f6.f6
       exact Fu kR (⟨[(2,_),(3,_),(4,_),(6,_),(7,_),(8,_),(9,_),(10,_),(11,_)],⟨rfl,rfl,rfl,rfl,rfl,rfl,rfl,rfl,rfl,trivial⟩,⟨v28,v29,v31,_,hlgJ34,rfl,Bh (hs.wk [_,_,_,_,_,_,_]) mK⟩⟩)
      have hle:=hs.le
      refine Bw hs underlying31 sizeOf22 zeroValue22 rfl rfl dC dC rfl (cs:=[_]) rfl rfl fun v32 _ hs _=>?_
      obtain ⟨_,hG179,hl179,hs⟩:=hs.fixRow noM
      have hs:=hs.f2.f2.f2
      have hsW:=hs.d3
      replace hlgJ34:=hlgJ34.mono hG179
      replace hl174:=hl174.mono hG179
      refine Ai hsW hle hG179 (lSr _) ?_
      have hs:=hs.f1
      have hle:=hs.le
      refine Xo 9 rfl (Au hs underlying30 Pw rfl dC rfl rfl (hl174) (Cp rfl) oM oM fun v33 _ hs=>?_)
      have hs:=hs.f2.f2.f2
      have hsW:=hs.d3
      refine Ai hsW hle (gLr _) (lSr _) ?_
      have hs:=hs.f2
      have hle:=hs.le
      refine Xo 14 rfl (Au hs underlying31 Od rfl dC rfl rfl (hl179) (Cp rfl) oM oM fun v34 _ hs=>?_)
      have hs:=hs.f2.f2.f2
      have hsW:=hs.d3
      refine Ai hsW hle (gLr _) (lSr _)<|Xn 16 rfl (Sd hs.f5 rfl (hs.f5.rowOne 3 rfl) fun _ hs=>Xa 17 rfl (S_y hs rfl (Yf 2 rfl<|Xn 18 rfl (Sd hs rfl (hs.rowOne 2 rfl) fun _ hs=>Xa 19 rfl (S_y hs rfl (Yf 3 rfl<|Xn 20 rfl (Sd hs rfl (hs.rowOne 1 rfl) fun _ hs=>?_)))))))
      have hs:=hs.f6.f2.f3.f4.f4.f6.f6
      exact Fu kR (⟨[(2,_),(3,_),(4,_),(6,_),(7,_),(8,_),(9,_),(10,_),(11,_)],⟨rfl,rfl,rfl,rfl,rfl,rfl,rfl,rfl,rfl,trivial⟩,⟨v28,v33,v34,_,hlgJ34,rfl,Bh (hs.wk [_,_,_,_,_,_,_]) mK⟩⟩)
     have hle:=hs.le
     refine Bw hs underlying31 sizeOf22 zeroValue22 rfl rfl dC dC rfl (cs:=[_]) rfl rfl fun v35 _ hs _=>?_
     obtain ⟨_,hG179,hl179,hs⟩:=hs.fixRow noM
     have hs:=hs.f2.f2.f2
     have hsW:=hs.d3
     replace hlgJ34:=hlgJ34.mono hG179
     replace hl169:=hl169.mono hG179
     replace hl174:=hl174.mono hG179
     refine Ai hsW hle hG179 (lSr _) ?_
     have hle:=hs.le
     refine Xo 4 rfl (Au hs underlying29 Tm rfl dC rfl rfl (hl169) (Cp rfl) oM oM fun v36 _ hs=>?_)
     have hs:=hs.f2.f2.f2
     have hsW:=hs.d3
     refine Ai hsW hle (gLr _) (lSr _)<|Xr [15] [1] hsW rfl ?_
     have hs:=hs.f1
     have hle:=hs.le
     refine Xo 9 rfl (Au hs underlying30 Pw rfl dC rfl rfl (hl174) (Cp rfl) oM oM fun v37 _ hs=>?_)
     have hs:=hs.f2.f2.f2
     have hsW:=hs.d3
     refine Ai hsW hle (gLr _) (lSr _) ?_
     have hs:=hs.f2
     have hle:=hs.le
     refine Xo 14 rfl (Au hs underlying31 Od rfl dC rfl rfl (hl179) (Cp rfl) oM oM fun v38 _ hs=>?_)
     have hs:=hs.f2.f2.f2
     have hsW:=hs.d3
     refine Ai hsW hle (gLr _) (lSr _)<|Xn 16 rfl (Sd hs.f5 rfl (hs.f5.rowOne 3 rfl) fun _ hs=>Xa 17 rfl (S_y hs rfl (Yf 2 rfl<|Xn 18 rfl (Sd hs rfl (hs.rowOne 2 rfl) fun _ hs=>Xa 19 rfl (S_y hs rfl (Yf 3 rfl<|Xn 20 rfl (Sd hs rfl (hs.rowOne 1 rfl) fun _ hs=>?_)))))))
     have hs:=hs.f6.f2.f3.f4.f4.f6.f6
     exact Fu kR (⟨[(2,_),(3,_),(4,_),(6,_),(7,_),(8,_),(9,_),(10,_),(11,_)],⟨rfl,rfl,rfl,rfl,rfl,rfl,rfl,rfl,rfl,trivial⟩,⟨v36,v37,v38,_,hlgJ34,rfl,Bh (hs.wk [_,_,_,_,_,_,_]) mK⟩⟩)
    have hle:=hs.le
    refine Bw hs underlying31 sizeOf22 zeroValue22 rfl rfl dC dC rfl (cs:=[_]) rfl rfl fun v39 _ hs _=>?_
    obtain ⟨_,hG179,hl179,hs⟩:=hs.fixRow noM
    have hs:=hs.f2.f2.f2
    have hsW:=hs.d3
    replace hlgJ34:=hlgJ34.mono hG179
    replace hl169:=hl169.mono hG179
    refine Ai hsW hle hG179 (lSr _)<|Oi 4 8 rfl rfl kR rfl rfl ?_ ?_
    ·
     have hle:=hs.le
     refine Au hs underlying29 Tm rfl dC rfl rfl (hl169) (Cp rfl) oM oM fun v40 _ hs=>?_
     have hs:=hs.f2.f2.f2
     have hsW:=hs.d3
     refine Ai hsW hle (gLr _) (lSr _)<|Xr [15] [1] hsW rfl ?_
     have hle:=hs.le
     refine Xo 8 rfl (Bw hs underlying30 sizeOf4 zeroValue4 rfl rfl dC dC rfl (cs:=[_]) rfl rfl fun v41 _ hs _=>?_)
     obtain ⟨_,hG174,hl174,hs⟩:=hs.fixRow noM
     have hs:=hs.f2.f2.f2
     have hsW:=hs.d3
     replace hlgJ34:=hlgJ34.mono hG174
     replace hl179:=hl179.mono hG174
     refine Ai hsW hle hG174 (lSr _) ?_
     have hs:=hs.f1
     have hle:=hs.le
     refine Xo 9 rfl (Au hs underlying30 Pw rfl dC rfl rfl (hl174) (Cp rfl) oM oM fun v42 _ hs=>?_)
     have hs:=hs.f2.f2.f2
     have hsW:=hs.d3
     refine Ai hsW hle (gLr _) (lSr _) ?_
     have hs:=hs.f2
     have hle:=hs.le
     refine Xo 14 rfl (Au hs underlying31 Od rfl dC rfl rfl (hl179) (Cp rfl) oM oM fun v43 _ hs=>?_)
     have hs:=hs.f2.f2.f2
     have hsW:=hs.d3
     refine Ai hsW hle (gLr _) (lSr _)<|Xn 16 rfl (Sd hs.f5 rfl (hs.f5.rowOne 3 rfl) fun _ hs=>Xa 17 rfl (S_y hs rfl (Yf 2 rfl<|Xn 18 rfl (Sd hs rfl (hs.rowOne 2 rfl) fun _ hs=>Xa 19 rfl (S_y hs rfl (Yf 3 rfl<|Xn 20 rfl (Sd hs rfl (hs.rowOne 1 rfl) fun _ hs=>?_)))))))
     have hs:=hs.f6.f2.f3.f4.f4.f6.f6
     exact Fu kR (⟨[(2,_),(3,_),(4,_),(6,_),(7,_),(8,_),(9,_),(10,_),(11,_)],⟨rfl,rfl,rfl,rfl,rfl,rfl,rfl,rfl,rfl,trivial⟩,⟨v40,v42,v43,_,hlgJ34,rfl,Bh (hs.wk [_,_,_,_,_,_,_]) mK⟩⟩)
    have hle:=hs.le
    refine Bw hs underlying30 sizeOf4 zeroValue4 rfl rfl dC dC rfl (cs:=[_]) rfl rfl fun v44 _ hs _=>?_
    obtain ⟨_,hG174,hl174,hs⟩:=hs.fixRow noM
    have hs:=hs.f2.f2.f2
    have hsW:=hs.d3
    replace hlgJ34:=hlgJ34.mono hG174
    replace hl169:=hl169.mono hG174
    replace hl179:=hl179.mono hG174
    refine Ai hsW hle hG174 (lSr _) ?_
    have hle:=hs.le
    refine Xo 4 rfl (Au hs underlying29 Tm rfl dC rfl rfl (hl169) (Cp rfl) oM oM fun v45 _ hs=>?_)
    have hs:=hs.f2.f2.f2
    have hsW:=hs.d3
    refine Ai hsW hle (gLr _) (lSr _)<|Xr [15] [1] hsW rfl ?_
    have hs:=hs.f1
    have hle:=hs.le
    refine Xo 9 rfl (Au hs underlying30 Pw rfl dC rfl rfl (hl174) (Cp rfl) oM oM fun v46 _ hs=>?_)
    have hs:=hs.f2.f2.f2
    have hsW:=hs.d3
    refine Ai hsW hle (gLr _) (lSr _) ?_
    have hs:=hs.f2
    have hle:=hs.le
    refine Xo 14 rfl (Au hs underlying31 Od rfl dC rfl rfl (hl179) (Cp rfl) oM oM fun v47 _ hs=>?_)
    have hs:=hs.f2.f2.f2
    have hsW:=hs.d3
    refine Ai hsW hle (gLr _) (lSr _)<|Xn 16 rfl (Sd hs.f5 rfl (hs.f5.rowOne 3 rfl) fun _ hs=>Xa 17 rfl (S_y hs rfl (Yf 2 rfl<|Xn 18 rfl (Sd hs rfl (hs.rowOne 2 rfl) fun _ hs=>Xa 19 rfl (S_y hs rfl (Yf 3 rfl<|Xn 20 rfl (Sd hs rfl (hs.rowOne 1 rfl) fun _ hs=>?_)))))))
    have hs:=hs.f6.f2.f3.f4.f4.f6.f6
    exact Fu kR (⟨[(2,_),(3,_),(4,_),(6,_),(7,_),(8,_),(9,_),(10,_),(11,_)],⟨rfl,rfl,rfl,rfl,rfl,rfl,rfl,rfl,rfl,trivial⟩,⟨v45,v46,v47,_,hlgJ34,rfl,Bh (hs.wk [_,_,_,_,_,_,_]) mK⟩⟩)
   ·
    have hle:=hs.le
    refine Bw hs underlying30 sizeOf4 zeroValue4 rfl rfl dC dC rfl (cs:=[_]) rfl rfl fun v48 _ hs _=>?_
    obtain ⟨_,hG174,hl174,hs⟩:=hs.fixRow noM
    have hs:=hs.f2.f2.f2
    have hsW:=hs.d3
    replace hlgJ34:=hlgJ34.mono hG174
    refine Ai hsW hle hG174 (lSr _)<|Oi 3 13 rfl rfl kR rfl rfl ?_ ?_
    ·
     have hle:=hs.le
     refine Bw hs underlying29 sizeOf71 zeroValue71 rfl rfl dC dC rfl (cs:=[_]) rfl rfl fun v49 _ hs _=>?_
     obtain ⟨_,hG169,hl169,hs⟩:=hs.fixRow noM
     have hs:=hs.f2.f2.f2
     have hsW:=hs.d3
     replace hlgJ34:=hlgJ34.mono hG169
     replace hl174:=hl174.mono hG169
     refine Ai hsW hle hG169 (lSr _)<|Oi 4 13 rfl rfl kR rfl rfl ?_ ?_
     ·
      have hle:=hs.le
      refine Au hs underlying29 Tm rfl dC rfl rfl (hl169) (Cp rfl) oM oM fun v50 _ hs=>?_
      have hs:=hs.f2.f2.f2
      have hsW:=hs.d3
      refine Ai hsW hle (gLr _) (lSr _)<|Xr [15] [1] hsW rfl<|Oi 9 13 rfl rfl kR rfl rfl ?_ ?_
      ·
       have hs:=hs.f1
       have hle:=hs.le
       refine Au hs underlying30 Pw rfl dC rfl rfl (hl174) (Cp rfl) oM oM fun v51 _ hs=>?_
       have hs:=hs.f2.f2.f2
       have hsW:=hs.d3
       refine Ai hsW hle (gLr _) (lSr _) ?_
       have hle:=hs.le
       refine Xo 13 rfl (Bw hs underlying31 sizeOf22 zeroValue22 rfl rfl dC dC rfl (cs:=[_]) rfl rfl fun v52 _ hs _=>?_)
       obtain ⟨_,hG179,hl179,hs⟩:=hs.fixRow noM
       have hs:=hs.f2.f2.f2
       have hsW:=hs.d3
       replace hlgJ34:=hlgJ34.mono hG179
       refine Ai hsW hle hG179 (lSr _) ?_
       have hs:=hs.f2
       have hle:=hs.le
       refine Xo 14 rfl (Au hs underlying31 Od rfl dC rfl rfl (hl179) (Cp rfl) oM oM fun v53 _ hs=>?_)
       have hs:=hs.f2.f2.f2
       have hsW:=hs.d3
       refine Ai hsW hle (gLr _) (lSr _)<|Xn 16 rfl (Sd hs.f5 rfl (hs.f5.rowOne 3 rfl) fun _ hs=>Xa 17 rfl (S_y hs rfl (Yf 2 rfl<|Xn 18 rfl (Sd hs rfl (hs.rowOne 2 rfl) fun _ hs=>Xa 19 rfl (S_y hs rfl (Yf 3 rfl<|Xn 20 rfl (Sd hs rfl (hs.rowOne 1 rfl) fun _ hs=>?_)))))))
       have hs:=hs.f6.f2.f3.f4.f4.f6.f6
       exact Fu kR (⟨[(2,_),(3,_),(4,_),(6,_),(7,_),(8,_),(9,_),(10,_),(11,_)],⟨rfl,rfl,rfl,rfl,rfl,rfl,rfl,rfl,rfl,trivial⟩,⟨v50,v51,v53,_,hlgJ34,rfl,Bh (hs.wk [_,_,_,_,_,_,_]) mK⟩⟩)
      have hle:=hs.le
      refine Bw hs underlying31 sizeOf22 zeroValue22 rfl rfl dC dC rfl (cs:=[_]) rfl rfl fun v54 _ hs _=>?_
      obtain ⟨_,hG179,hl179,hs⟩:=hs.fixRow noM
      have hs:=hs.f2.f2.f2
      have hsW:=hs.d3
      replace hlgJ34:=hlgJ34.mono hG179
      replace hl174:=hl174.mono hG179
      refine Ai hsW hle hG179 (lSr _) ?_
      have hs:=hs.f1
      have hle:=hs.le
      refine Xo 9 rfl (Au hs underlying30 Pw rfl dC rfl rfl (hl174) (Cp rfl) oM oM fun v55 _ hs=>?_)
      have hs:=hs.f2.f2.f2
      have hsW:=hs.d3
      refine Ai hsW hle (gLr _) (lSr _) ?_
      have hs:=hs.f2
      have hle:=hs.le
      refine Xo 14 rfl (Au hs underlying31 Od rfl dC rfl rfl (hl179) (Cp rfl) oM oM fun v56 _ hs=>?_)
      have hs:=hs.f2.f2.f2
      have hsW:=hs.d3
      refine Ai hsW hle (gLr _) (lSr _)<|Xn 16 rfl (Sd hs.f5 rfl (hs.f5.rowOne 3 rfl) fun _ hs=>Xa 17 rfl (S_y hs rfl (Yf 2 rfl<|Xn 18 rfl (Sd hs rfl (hs.rowOne 2 rfl) fun _ hs=>Xa 19 rfl (S_y hs rfl (Yf 3 rfl<|Xn 20 rfl (Sd hs rfl (hs.rowOne 1 rfl) fun _ hs=>?_)))))))
      have hs:=hs.f6.f2.f3.f4.f4.f6.f6
      exact Fu kR (⟨[(2,_),(3,_),(4,_),(6,_),(7,_),(8,_),(9,_),(10,_),(11,_)],⟨rfl,rfl,rfl,rfl,rfl,rfl,rfl,rfl,rfl,trivial⟩,⟨v50,v55,v56,_,hlgJ34,rfl,Bh (hs.wk [_,_,_,_,_,_,_]) mK⟩⟩)
     have hle:=hs.le
     refine Bw hs underlying31 sizeOf22 zeroValue22 rfl rfl dC dC rfl (cs:=[_]) rfl rfl fun v57 _ hs _=>?_
     obtain ⟨_,hG179,hl179,hs⟩:=hs.fixRow noM
     have hs:=hs.f2.f2.f2
     have hsW:=hs.d3
     replace hlgJ34:=hlgJ34.mono hG179
     replace hl174:=hl174.mono hG179
     replace hl169:=hl169.mono hG179
     refine Ai hsW hle hG179 (lSr _) ?_
     have hle:=hs.le
     refine Xo 4 rfl (Au hs underlying29 Tm rfl dC rfl rfl (hl169) (Cp rfl) oM oM fun v58 _ hs=>?_)
     have hs:=hs.f2.f2.f2
     have hsW:=hs.d3
     refine Ai hsW hle (gLr _) (lSr _)<|Xr [15] [1] hsW rfl ?_
     have hs:=hs.f1
     have hle:=hs.le
     refine Xo 9 rfl (Au hs underlying30 Pw rfl dC rfl rfl (hl174) (Cp rfl) oM oM fun v59 _ hs=>?_)
     have hs:=hs.f2.f2.f2
     have hsW:=hs.d3
     refine Ai hsW hle (gLr _) (lSr _) ?_
     have hs:=hs.f2
     have hle:=hs.le
     refine Xo 14 rfl (Au hs underlying31 Od rfl dC rfl rfl (hl179) (Cp rfl) oM oM fun v60 _ hs=>?_)
     have hs:=hs.f2.f2.f2
     have hsW:=hs.d3
     refine Ai hsW hle (gLr _) (lSr _)<|Xn 16 rfl (Sd hs.f5 rfl (hs.f5.rowOne 3 rfl) fun _ hs=>Xa 17 rfl (S_y hs rfl (Yf 2 rfl<|Xn 18 rfl (Sd hs rfl (hs.rowOne 2 rfl) fun _ hs=>Xa 19 rfl (S_y hs rfl (Yf 3 rfl<|Xn 20 rfl (Sd hs rfl (hs.rowOne 1 rfl) fun _ hs=>?_)))))))
     have hs:=hs.f6.f2.f3.f4.f4.f6.f6
     exact Fu kR (⟨[(2,_),(3,_),(4,_),(6,_),(7,_),(8,_),(9,_),(10,_),(11,_)],⟨rfl,rfl,rfl,rfl,rfl,rfl,rfl,rfl,rfl,trivial⟩,⟨v58,v59,v60,_,hlgJ34,rfl,Bh (hs.wk [_,_,_,_,_,_,_]) mK⟩⟩)
    have hle:=hs.le
    refine Bw hs underlying31 sizeOf22 zeroValue22 rfl rfl dC dC rfl (cs:=[_]) rfl rfl fun v61 _ hs _=>?_
    obtain ⟨_,hG179,hl179,hs⟩:=hs.fixRow noM
    have hs:=hs.f2.f2.f2
    have hsW:=hs.d3
    replace hlgJ34:=hlgJ34.mono hG179
    replace hl174:=hl174.mono hG179
    refine Ai hsW hle hG179 (lSr _) ?_
    have hle:=hs.le
    refine Xo 3 rfl (Bw hs underlying29 sizeOf71 zeroValue71 rfl rfl dC dC rfl (cs:=[_]) rfl rfl fun v62 _ hs _=>?_)
    obtain ⟨_,hG169,hl169,hs⟩:=hs.fixRow noM
    have hs:=hs.f2.f2.f2
    have hsW:=hs.d3
    replace hlgJ34:=hlgJ34.mono hG169
    replace hl174:=hl174.mono hG169
    replace hl179:=hl179.mono hG169
    refine Ai hsW hle hG169 (lSr _) ?_
    have hle:=hs.le
    refine Xo 4 rfl (Au hs underlying29 Tm rfl dC rfl rfl (hl169) (Cp rfl) oM oM fun v63 _ hs=>?_)
    have hs:=hs.f2.f2.f2
    have hsW:=hs.d3
    refine Ai hsW hle (gLr _) (lSr _)<|Xr [15] [1] hsW rfl ?_
    have hs:=hs.f1
    have hle:=hs.le
    refine Xo 9 rfl (Au hs underlying30 Pw rfl dC rfl rfl (hl174) (Cp rfl) oM oM fun v64 _ hs=>?_)
    have hs:=hs.f2.f2.f2
    have hsW:=hs.d3
    refine Ai hsW hle (gLr _) (lSr _) ?_
    have hs:=hs.f2
    have hle:=hs.le
    refine Xo 14 rfl (Au hs underlying31 Od rfl dC rfl rfl (hl179) (Cp rfl) oM oM fun v65 _ hs=>?_)
    have hs:=hs.f2.f2.f2
    have hsW:=hs.d3
    refine Ai hsW hle (gLr _) (lSr _)<|Xn 16 rfl (Sd hs.f5 rfl (hs.f5.rowOne 3 rfl) fun _ hs=>Xa 17 rfl (S_y hs rfl (Yf 2 rfl<|Xn 18 rfl (Sd hs rfl (hs.rowOne 2 rfl) fun _ hs=>Xa 19 rfl (S_y hs rfl (Yf 3 rfl<|Xn 20 rfl (Sd hs rfl (hs.rowOne 1 rfl) fun _ hs=>?_)))))))
    have hs:=hs.f6.f2.f3.f4.f4.f6.f6
    exact Fu kR (⟨[(2,_),(3,_),(4,_),(6,_),(7,_),(8,_),(9,_),(10,_),(11,_)],⟨rfl,rfl,rfl,rfl,rfl,rfl,rfl,rfl,rfl,trivial⟩,⟨v63,v64,v65,_,hlgJ34,rfl,Bh (hs.wk [_,_,_,_,_,_,_]) mK⟩⟩)
   have hle:=hs.le
   refine Bw hs underlying31 sizeOf22 zeroValue22 rfl rfl dC dC rfl (cs:=[_]) rfl rfl fun v66 _ hs _=>?_
   obtain ⟨_,hG179,hl179,hs⟩:=hs.fixRow noM
   have hs:=hs.f2.f2.f2
   have hsW:=hs.d3
   replace hlgJ34:=hlgJ34.mono hG179
   refine Ai hsW hle hG179 (lSr _)<|Oi 3 8 rfl rfl kR rfl rfl ?_ ?_
   ·
    have hle:=hs.le
    refine Bw hs underlying29 sizeOf71 zeroValue71 rfl rfl dC dC rfl (cs:=[_]) rfl rfl fun v67 _ hs _=>?_
    obtain ⟨_,hG169,hl169,hs⟩:=hs.fixRow noM
    have hs:=hs.f2.f2.f2
    have hsW:=hs.d3
    replace hlgJ34:=hlgJ34.mono hG169
    replace hl179:=hl179.mono hG169
    refine Ai hsW hle hG169 (lSr _)<|Oi 4 8 rfl rfl kR rfl rfl ?_ ?_
    ·
     have hle:=hs.le
     refine Au hs underlying29 Tm rfl dC rfl rfl (hl169) (Cp rfl) oM oM fun v68 _ hs=>?_
     have hs:=hs.f2.f2.f2
     have hsW:=hs.d3
     refine Ai hsW hle (gLr _) (lSr _)<|Xr [15] [1] hsW rfl ?_
     have hle:=hs.le
     refine Xo 8 rfl (Bw hs underlying30 sizeOf4 zeroValue4 rfl rfl dC dC rfl (cs:=[_]) rfl rfl fun v69 _ hs _=>?_)
     obtain ⟨_,hG174,hl174,hs⟩:=hs.fixRow noM
     have hs:=hs.f2.f2.f2
     have hsW:=hs.d3
     replace hlgJ34:=hlgJ34.mono hG174
     replace hl179:=hl179.mono hG174
     refine Ai hsW hle hG174 (lSr _) ?_
     have hs:=hs.f1
     have hle:=hs.le
     refine Xo 9 rfl (Au hs underlying30 Pw rfl dC rfl rfl (hl174) (Cp rfl) oM oM fun v70 _ hs=>?_)
     have hs:=hs.f2.f2.f2
     have hsW:=hs.d3
     refine Ai hsW hle (gLr _) (lSr _) ?_
     have hs:=hs.f2
     have hle:=hs.le
     refine Xo 14 rfl (Au hs underlying31 Od rfl dC rfl rfl (hl179) (Cp rfl) oM oM fun v71 _ hs=>?_)
     have hs:=hs.f2.f2.f2
     have hsW:=hs.d3
     refine Ai hsW hle (gLr _) (lSr _)<|Xn 16 rfl (Sd hs.f5 rfl (hs.f5.rowOne 3 rfl) fun _ hs=>Xa 17 rfl (S_y hs rfl (Yf 2 rfl<|Xn 18 rfl (Sd hs rfl (hs.rowOne 2 rfl) fun _ hs=>Xa 19 rfl (S_y hs rfl (Yf 3 rfl<|Xn 20 rfl (Sd hs rfl (hs.rowOne 1 rfl) fun _ hs=>?_)))))))
     have hs:=hs.f6.f2.f3.f4.f4.f6.f6
     exact Fu kR (⟨[(2,_),(3,_),(4,_),(6,_),(7,_),(8,_),(9,_),(10,_),(11,_)],⟨rfl,rfl,rfl,rfl,rfl,rfl,rfl,rfl,rfl,trivial⟩,⟨v68,v70,v71,_,hlgJ34,rfl,Bh (hs.wk [_,_,_,_,_,_,_]) mK⟩⟩)
    have hle:=hs.le
    refine Bw hs underlying30 sizeOf4 zeroValue4 rfl rfl dC dC rfl (cs:=[_]) rfl rfl fun v72 _ hs _=>?_
    obtain ⟨_,hG174,hl174,hs⟩:=hs.fixRow noM
    have hs:=hs.f2.f2.f2
    have hsW:=hs.d3
    replace hlgJ34:=hlgJ34.mono hG174
    replace hl179:=hl179.mono hG174
    replace hl169:=hl169.mono hG174
    refine Ai hsW hle hG174 (lSr _) ?_
    have hle:=hs.le
    refine Xo 4 rfl (Au hs underlying29 Tm rfl dC rfl rfl (hl169) (Cp rfl) oM oM fun v73 _ hs=>?_)
    have hs:=hs.f2.f2.f2
    have hsW:=hs.d3
    refine Ai hsW hle (gLr _) (lSr _)<|Xr [15] [1] hsW rfl ?_
    have hs:=hs.f1
    have hle:=hs.le
    refine Xo 9 rfl (Au hs underlying30 Pw rfl dC rfl rfl (hl174) (Cp rfl) oM oM fun v74 _ hs=>?_)
    have hs:=hs.f2.f2.f2
    have hsW:=hs.d3
    refine Ai hsW hle (gLr _) (lSr _) ?_
    have hs:=hs.f2
    have hle:=hs.le
    refine Xo 14 rfl (Au hs underlying31 Od rfl dC rfl rfl (hl179) (Cp rfl) oM oM fun v75 _ hs=>?_)
    have hs:=hs.f2.f2.f2
    have hsW:=hs.d3
    refine Ai hsW hle (gLr _) (lSr _)<|Xn 16 rfl (Sd hs.f5 rfl (hs.f5.rowOne 3 rfl) fun _ hs=>Xa 17 rfl (S_y hs rfl (Yf 2 rfl<|Xn 18 rfl (Sd hs rfl (hs.rowOne 2 rfl) fun _ hs=>Xa 19 rfl (S_y hs rfl (Yf 3 rfl<|Xn 20 rfl (Sd hs rfl (hs.rowOne 1 rfl) fun _ hs=>?_)))))))
    have hs:=hs.f6.f2.f3.f4.f4.f6.f6
    exact Fu kR (⟨[(2,_),(3,_),(4,_),(6,_),(7,_),(8,_),(9,_),(10,_),(11,_)],⟨rfl,rfl,rfl,rfl,rfl,rfl,rfl,rfl,rfl,trivial⟩,⟨v73,v74,v75,_,hlgJ34,rfl,Bh (hs.wk [_,_,_,_,_,_,_]) mK⟩⟩)
   have hle:=hs.le
   refine Bw hs underlying30 sizeOf4 zeroValue4 rfl rfl dC dC rfl (cs:=[_]) rfl rfl fun v76 _ hs _=>?_
   obtain ⟨_,hG174,hl174,hs⟩:=hs.fixRow noM
   have hs:=hs.f2.f2.f2
   have hsW:=hs.d3
   replace hlgJ34:=hlgJ34.mono hG174
   replace hl179:=hl179.mono hG174
   refine Ai hsW hle hG174 (lSr _) ?_
   have hle:=hs.le
   refine Xo 3 rfl (Bw hs underlying29 sizeOf71 zeroValue71 rfl rfl dC dC rfl (cs:=[_]) rfl rfl fun v77 _ hs _=>?_)
   obtain ⟨_,hG169,hl169,hs⟩:=hs.fixRow noM
   have hs:=hs.f2.f2.f2
   have hsW:=hs.d3
   replace hlgJ34:=hlgJ34.mono hG169
   replace hl179:=hl179.mono hG169
   replace hl174:=hl174.mono hG169
   refine Ai hsW hle hG169 (lSr _) ?_
   have hle:=hs.le
   refine Xo 4 rfl (Au hs underlying29 Tm rfl dC rfl rfl (hl169) (Cp rfl) oM oM fun v78 _ hs=>?_)
   have hs:=hs.f2.f2.f2
   have hsW:=hs.d3
   refine Ai hsW hle (gLr _) (lSr _)<|Xr [15] [1] hsW rfl ?_
   have hs:=hs.f1
   have hle:=hs.le
   refine Xo 9 rfl (Au hs underlying30 Pw rfl dC rfl rfl (hl174) (Cp rfl) oM oM fun v79 _ hs=>?_)
   have hs:=hs.f2.f2.f2
   have hsW:=hs.d3
   refine Ai hsW hle (gLr _) (lSr _) ?_
   have hs:=hs.f2
   have hle:=hs.le
   refine Xo 14 rfl (Au hs underlying31 Od rfl dC rfl rfl (hl179) (Cp rfl) oM oM fun v80 _ hs=>?_)
   have hs:=hs.f2.f2.f2
   have hsW:=hs.d3
   refine Ai hsW hle (gLr _) (lSr _)<|Xn 16 rfl (Sd hs.f5 rfl (hs.f5.rowOne 3 rfl) fun _ hs=>Xa 17 rfl (S_y hs rfl (Yf 2 rfl<|Xn 18 rfl (Sd hs rfl (hs.rowOne 2 rfl) fun _ hs=>Xa 19 rfl (S_y hs rfl (Yf 3 rfl<|Xn 20 rfl (Sd hs rfl (hs.rowOne 1 rfl) fun _ hs=>?_)))))))
   have hs:=hs.f6.f2.f3.f4.f4.f6.f6
   exact Fu kR (⟨[(2,_),(3,_),(4,_),(6,_),(7,_),(8,_),(9,_),(10,_),(11,_)],⟨rfl,rfl,rfl,rfl,rfl,rfl,rfl,rfl,rfl,trivial⟩,⟨v78,v79,v80,_,hlgJ34,rfl,Bh (hs.wk [_,_,_,_,_,_,_]) mK⟩⟩)
  clear hs
  intro D M L w hL hI
  obtain ⟨vm2,vf2,ve2,G2,hlgJ34,hE,hs⟩:=hI
  cases hE
  refine Oh _ hL ?_
  have hTm:=hTm_J34.mono hlgJ34
  have hTe:=hTe_J34.mono hlgJ34
  have hTf:=hTf_J34.mono hlgJ34
  have hTc:=hTc_J34.mono hlgJ34
  have hUc:=hUc_J34.mono hlgJ34
  have hUm:=hUm_J34.mono hlgJ34
  have hUf:=hUf_J34.mono hlgJ34
  have hUe:=hUe_J34.mono hlgJ34
  have hT:=hT_J34.mono hlgJ34
  have hB2:=hB2_J34.mono hlgJ34
  have hB3:=hB3_J34.mono hlgJ34
  have hB7:=hB7_J34.mono hlgJ34
  have hB8:=hB8_J34.mono hlgJ34
  have hCC:=hCC_J34.mono hlgJ34
  have hms:=hms_J34.mono hlgJ34
  have hws:=hws_J34.mono hlgJ34
  have hmr:=hmr_J34.mono hlgJ34
  have hwb:=hwb_J34.mono hlgJ34
  have hlg0:=hlg0_J34.mono hlgJ34
  have hlg1:=hlg1_J34.mono hlgJ34
  refine Wt 2 [] hs rfl<|Zy hs (Ya (s:=((i+1:Nat):Int)) rfl<|Wp 1 [] hs rfl ?_)
  have hs:=hs.f6.f6.f6.f6.f6.f6.f6
  refine Zx [2,3,4,6,7,8,9,10,11] rfl ⟨f1,i+1,l2,rows++[rw9],vs++[Vs b74 CC.length CC.length],ws++[.slice Aw ((Iu t u (p,q)).getD []).length cw],vpr2,vm2,vf2,ve2,_,hlg0,hgo,hnd,hlok2,by rw [hl2,AaB];omega,by rw [AaB,hrl9];rfl,by rw [AaB,hvl];rfl,by rw [AaB,hwl];rfl,Cw.snoc hms hmr,by rw [htk1,AaU];exact Cw.snoc hws hwb,rfl,rfl,Bh hs (by rw [htk1];simp)⟩
 refine Wp 3 [0] hs rfl ?_
 obtain ⟨f1,rfl⟩:∃ g,m=g+1:=⟨m-1,by have:=lA hex;omega⟩
 have hfe:=comG_end oM hex
 obtain ⟨rfl,rfl⟩:=Prod.mk.inj hfe
 obtain rfl:i=L.length:=by omega
 rw [Aaj] at hs hws
 have hs:=hs.f3
 obtain ⟨_,hG_hfm,hfm,hs⟩:=hs.fixRow noM
 replace hms:=hms.mono hG_hfm
 have hMM:=mm_fin hfm hrl9.symm hms
 clear hfm
 have hs:=hs.f3
 obtain ⟨_,hG_hff,hff,hs⟩:=hs.fixRow noM
 have hBo:Dt _ vf (L.map fun s=>(Iu t u s).isSome):=(show Dt _ _ _ from by unfold Dt;rw [AaC];exact hff)
 clear hff
 have hs:=hs.f3
 obtain ⟨_,hG_hfe2,hfe2,hs⟩:=hs.fixRow noM
 replace hws:=hws.mono (hG_hfm.trans (hG_hff.trans hG_hfe2))
 have hLB:=Es.fin hfe2 (by rw [AaC]) hws
 clear hfe2
 have hsK:=hs
 clear hs
 replace hMM:=hMM.mono (hG_hff.trans hG_hfe2)
 obtain ⟨Am,cm,rfl⟩:=hMM.slice
 replace hBo:=hBo.mono hG_hfe2
 obtain ⟨Ab,cb,rfl,_⟩:=id hBo
 obtain ⟨Ae,ce,rfl⟩:=Eg hLB
 have hs:=hsK
 clear hsK
 refine Wu 4 [2] hs rfl ?_
 replace hCC:=hCC.mono (hG_hfm.trans (hG_hff.trans hG_hfe2))
 refine O_s (Sp (Ls (t:=C) (hCe▸⟨_,_,_,_,rfl,hCC,hMM,hBo,hLB⟩)) hs rfl fun v81 G' _ hR hG185 hs=>?_)
 obtain rfl:=hR
 replace hCC:=hCC.mono hG185
 replace hMM:=hMM.mono hG185
 replace hBo:=hBo.mono hG185
 replace hLB:=hLB.mono hG185
 cases hvC:Gh C
 ·
  refine Wp 5 [0] hs rfl<|Zy hs (Ce zeroValue33 rfl PL33 rfl (cs:=[_,_,_,_]) rfl<|O_n (Sg hs.f3 rfl (rfl) fun _ hs=>Wp 2 [0] hs rfl<|As ?_))
  have hr:=hs
  refine By (vs:=[_,_]) results25 rfl ⟨Bq 0 hr isAgg33 sizeOf33 rfl (cs:=[_,_,_,_]) rfl rfl,rfl,trivial⟩ ?_
  try dsimp only [tup]
  exact hs.q ⟨C,hC,by rw [if_neg (by rw [hvC];exact Abj)];rfl⟩
 refine Wp 7 [0,2] hs rfl<|O_n (Sg hs.f3 rfl (rfl) fun _ hs=>Wp 2 [0] hs rfl<|As ?_)
 have hr:=hs
 refine By (vs:=[_,_]) results25 rfl ⟨Bq 0 hr isAgg33 sizeOf33 rfl (cs:=[_,_,_,_]) rfl rfl,rfl,trivial⟩ ?_
 try dsimp only [tup]
 exact hs.q ⟨C,hC,by rw [if_pos hvC];exact ⟨_,rfl,hCe▸⟨_,_,_,_,rfl,hCC,hMM,hBo,hLB⟩⟩⟩
def Mf (al:List UInt8) (n:Nat):List (List UInt8):=(List.range n).flatMap fun n=>(List.range (al.length ^ n)).map (Hv al n)
theorem Vl (al:List UInt8) (n:Nat):Mf al (n+1)=Mf al n++(List.range (al.length ^ n)).map (Hv al n):=by unfold Mf;rw [AbC,Abl];simp
theorem Fg (al:List UInt8) (n:Nat):(Mf al (n+1)).length=(Mf al n).length+al.length ^ n:=by rw [Vl,AaB,AaC,AaO]
theorem lB (al:List UInt8) (n:Nat):∀ j,∃ r,Mf al (n+j)=Mf al n++r
  | 0=>⟨[],(AaX _).symm⟩
  | j+1=>by obtain ⟨r,h⟩:=lB al n j;exact ⟨r++(List.range (al.length ^ (n+j))).map (Hv al (n+j)),by rw [← Nat.add_assoc,Vl,h,AaI]⟩
theorem words_at {al:List UInt8} {most n k:Nat} (hn:n≤most) (hk:k<al.length ^ n):(Hw al most)[(Mf al n).length+k]?=some (Hv al n k):=by
  obtain ⟨r,h⟩:=lB al (n+1) (most-n)
  rw [show n+1+(most-n)=most+1 by omega] at h
  show (Mf al (most+1))[_]?=_
  rw [h,Vl,AaI,AaW oM,Nat.add_sub_cancel_left,AaN (by rw [AaC,AaO];exact hk),Aak,List.getElem?_range hk];rfl
def RxW (G:Ah) (v:List Value) (x:List UInt8):Prop:=∃ u,v=[u]∧Bd G u x
theorem inc_up {a:Nat}:∀ (c:Nat) (l:List Nat),(Ik a (l.drop c)).2=true→Ik a l=(l.take c++(Ik a (l.drop c)).1,true)
  | 0,l,h=>by rw [List.drop_zero] at h ⊢;rw [AcS,AbA,← h]
  | c+1,[],h=>by simp [Ik] at h
  | c+1,d::l,h=>by
    rw [List.drop_succ_cons] at h ⊢
    have ih:=inc_up c l h
    rw [Ik,if_pos (by rw [ih]),ih,List.take_succ_cons];rfl
theorem lC {a c:Nat} {l:List Nat} (h:c=0∨(Ik a (l.drop c)).2=true):l.take c++(Ik a (l.drop c)).1=(Ik a l).1∧(Ik a (l.drop c)).2=(Ik a l).2:=by
  rcases h with rfl | h
  · rw [AcS,List.drop_zero,AbA];exact ⟨rfl,rfl⟩
  · rw [inc_up c l h];exact ⟨rfl,h⟩
theorem inc_one {a c d:Nat} {l:List Nat} (h:c<l.length) (hd:l[c]=d) (hm:(Ik a (l.drop (c+1))).2=false):(l.take (c+1)++(Ik a (l.drop (c+1))).1).set c ((d+1) % a)=l.take c++(Ik a (l.drop c)).1∧decide (0<(d+1) % a)=(Ik a (l.drop c)).2:=by
  have e:Ik a (l.drop c)=((d+1) % a::(Ik a (l.drop (c+1))).1,decide (0<(d+1) % a)):=by rw [Aaq h,hd,Ik,if_neg (by rw [hm];exact Abj)]
  rw [e]
  refine ⟨?_,rfl⟩
  rw [Hj h,AaI,AbM _ _ Z55,Aag,Nat.min_eq_left oM,Aaw];rfl
theorem sG {a:Nat}:∀ l:List Nat,(Ik a l).1.length=l.length
  | []=>rfl
  | d::l=>by rw [Ik];split<;>simp [sG l]
theorem oP {l:List Nat} {i:Nat} (h:i<l.length):(l.map Bl)[i]?=some (Bl l[i]):=by rw [Aak,AaA h];rfl
theorem fillW {al:List UInt8} {dg:List Nat} {n j:Nat} {xb:UInt8} (hj:j<dg.length) (hn:j<n) (hx:al.getD dg[j] 0=xb):(((dg.take j).map fun i=>al.getD i 0)++List.replicate (n-j) 0).set j xb=((dg.take (j+1)).map fun i=>al.getD i 0)++List.replicate (n-(j+1)) 0:=by
  rw [No Z36 hn,Hj hj,AaU,List.map_singleton,hx]
theorem vH (al:List UInt8) (n k:Nat):(Hv al n k).length=n:=by unfold Hv;rw [AaC,Cn7.dig_len]
theorem beq7_ok {v v2:Value} {a b:List UInt8} (ha:Bd G v a) (hb:Bd G v2 b) (hal:a.length≤100000000) (hbl:b.length≤100000000) :
  Ba prog 80 [v,v2] G [] fun r _ H'=>H'=[]∧r=.bool (decide (a=b)):=by
 obtain ⟨Aa,ca,rfl,_⟩:=id ha
 obtain ⟨Ab,cb,rfl,_⟩:=id hb
 refine Ba.of_T [(0,_),(1,_)] func80 rfl ntmps80 sM rfl fun w0 hs=>?_
 have ha0:=ha
 have hb0:=hb
 refine Wt 7 [0] hs rfl<|Zy hs (Kq (bs:=a) underlying22 underlying5 underlying9 rfl ha<|Wp 1 [] hs rfl<|Zy hs (Kq (bs:=b) underlying22 underlying5 underlying9 rfl hb<|Zy hs (iH (a:=a) (b:=b) rfl rfl (fun h9=>?_) (fun h9=>?_))))
 ·
  refine Wp 2 [0] hs rfl<|As<|Zz results80 rfl ?_
  exact hs.q (congrArg Value.bool (decide_eq_true h9).symm)
 refine Wp 2 [0] hs rfl<|As<|Zz results80 rfl ?_
 exact hs.q (congrArg Value.bool (decide_eq_false h9).symm)
theorem words_ok {Aa:Option Addr} {na ca most:Nat} :
  Ba prog 79 [.slice Aa na ca,Vi (most:Int)] G [] fun r G' H'=>H'=[]∧∃ ba bm,r=.func (.func 134) #[] #[Vp bm,Vp ba]∧Cg G' ba [.slice Aa na ca]∧Cg G' bm [Vi (most:Int)]:=by
 refine Ba.of_T [(0,_),(1,_)] func79 rfl ntmps79 sM rfl fun w0 hs =>Wt 2 [] hs rfl<|O_s (Sb hs rfl fun b2 _ hs=>O_s (Sb hs rfl fun b3 _ hs=>Wp 4 [0] hs rfl<|Zy hs (He (vs:=[_,_]) rfl<|Wp 2 [0] hs rfl<|As ?_)))
 have hs:=hs.f1
 obtain ⟨_,hGbhQu,hQu,hs⟩:=hs.fixBlk (fun k _=>Gb k)
 replace hQu:Cg _ b2 _:=hQu
 obtain ⟨_,hGbhQo,hQo,hs⟩:=hs.fixBlk (fun k _=>Gb k)
 replace hQo:Cg _ b3 _:=hQo
 refine Zz results79 rfl ?_
 replace hQu:=hQu.mono hGbhQo
 exact hs.q ⟨_,_,rfl,hQu,hQo⟩
theorem wrd1_ok {bm ba ca most:Nat} {Aa:Option Addr} {al:List UInt8} (hbm:Cg G bm [Vi (most:Int)]) (hba:Cg G ba [.slice Aa al.length ca]) (hab:Bd G (.slice Aa al.length ca) al) (hal0:0<al.length) (hal:al.length≤1000) (hmost:most≤1000) {lp:Nat} {H0:List Res} {J:Nat→Ah→List Res→Prop} {K:Ah→List Res→Prop} (hJm:∀ n G1 G2 H,Ah.le G1 G2→J n G1 H→J n G2 H) (hKm:∀ G1 G2 H,Ah.le G1 G2→K G1 H→K G2 H)
  (hY:∀ n x v G' H',(Hw al most)[n]?=some x→RxW G' v x→G.le G'→J n G' H'→Fl prog lp v G' H' fun b G'' H''=>(b=Vt∧J (n+1) G'' H''∧So H' H'')∨(b=Vf∧K G'' H'')) (hJ0:J 0 G H0) :
  Ba prog 134 [.func (.yield lp) #[] #[],Vp bm,Vp ba] G H0 fun _ G' H'=>J (Hw al most).length G' H'∨K G' H':=by
 refine Ba.of_T [(0,_),(1,_),(2,_)] func134 rfl ntmps134 sM rfl fun w0 hs=>?_
 have hbm0:=hbm
 have hba0:=hba
 have hab0:=hab
 have hfe:=So.refl H0
 refine Wt 2 [] hs rfl<|Zy hs (Yg rfl (hbm 0 _ rfl)<|Zy hs (Ya (s:=((most+1:Nat):Int)) rfl<|Wp 2 [0] hs rfl<|Zl [0,2,12,13] (fun m E w=>∃ (n:Nat) (G2:Ah) (H'':List Res),n≤most+1∧J (Mf al n).length G2 H''∧So H0 H''∧m=most+1-n∧E=⟨[],[(0,.func (.yield lp) #[] #[]),(2,Vp ba),(12,Vi (((most+1:Nat):Int))),(13,Vi (n:Int))]⟩∧St ⟨w0,G,Bj H0⟩ G2 H'' w) rfl (⟨0,_,_,by omega,hJm _ _ _ _ hs.le hJ0,hfe,rfl,rfl,hs⟩) fun m E w hI=>?_))
 obtain ⟨n,G2,H'',hn9,hJ,hfe,rfl,rfl,hs⟩:=hI
 have hbm:=hbm0.mono hs.le
 have hba:=hba0.mono hs.le
 have hab:=hab0.mono hs.le
 have hlg:=Cu.refl G2
 refine Wt 2 [] hs rfl<|Zy hs (Yc rfl (fun h14=>?_) fun h14=>?_)
 ·
  refine Wp 14 [0,0] hs rfl<|O_s (Dw (n:=n) (m:=n) hs underlying79 Qx rfl rfl rfl oM oM oM fun b17 _ hs =>Wp 6 [0,0] hs rfl ?_)
  rw [Hy] at hs
  refine Zl [0,2,4,5,6,12,13] (fun m E w=>∃ (k:Nat) (mo:Bool) (dg:List Nat) (G2:Ah) (H'':List Res),k≤al.length ^ n∧mo=decide (k<al.length ^ n)∧dg=Hu al.length n (k % al.length ^ n)∧J ((Mf al n).length+k) G2 H''∧So H0 H''∧m=al.length ^ n-k∧E=⟨[],[(0,.func (.yield lp) #[] #[]),(2,Vp ba),(4,Vi (n:Int)),(5,Vs b17 n n),(6,.bool mo),(12,Vi (((most+1:Nat):Int))),(13,Vi (n:Int))]⟩∧St ⟨w0,G,Bj H0⟩ G2 (.row 3 1 (Vs b17 n n) n (dg.map Bl)::H'') w) rfl (⟨0,true,List.replicate n 0,_,_,by omega,(decide_eq_true (AcU hal0)).symm,by rw [Nat.zero_mod,Cn7.dig_zero],hJm _ _ _ _ hlg hJ,hfe,rfl,rfl,hs⟩) fun m E w hI=>?_
  obtain ⟨k,mo,dg,G2,H'',hk9,hmo,hdg,hJ,hfe,rfl,rfl,hs⟩:=hI
  have hbm:=hbm0.mono hs.le
  have hba:=hba0.mono hs.le
  have hab:=hab0.mono hs.le
  have hlg:=Cu.refl G2
  have hdl:dg.length=n:=by rw [hdg];exact Cn7.dig_len _ _ _
  have hdlt:∀ d∈dg,d<al.length:=by rw [hdg];exact Cn7.dig_lt hal0 _ _
  refine Wt 5 [0] hs rfl<|Fk rfl (fun h18=>?_) (fun h18=>?_)
  ·
   refine Wu 5 [] hs rfl<|O_s (Dw (n:=n) (m:=n) hs underlying22 cK rfl rfl rfl oM oM oM fun b20 _ hs =>Wp 9 [0,0] hs rfl ?_)
   have hs:=hs.f1.f1
   have hka:k<al.length ^ n:=of_decide_eq_true (hmo.symm.trans h18)
   have hdg2:dg=Hu al.length n k:=by rw [hdg,AaT hka]
   rw [Tj,show List.replicate n (0:UInt8)=((dg.take 0).map fun i=>al.getD i 0)++List.replicate (n-0) 0 from rfl] at hs
   refine Zl [0,2,4,5,7,12,13,21,22,23] (fun m E w=>∃ (j:Nat) (G2:Ah),j≤n∧J ((Mf al n).length+k) G2 H''∧m=n-j∧E=⟨[],[(0,.func (.yield lp) #[] #[]),(2,Vp ba),(4,Vi (n:Int)),(5,Vs b17 n n),(7,Vs b20 n n),(12,Vi (((most+1:Nat):Int))),(13,Vi (n:Int)),(21,Vs b17 n n),(22,Vi ((n:Nat):Int)),(23,Vi (j:Int))]⟩∧St ⟨w0,G,Bj H0⟩ G2 (.row 5 1 (Vs b20 n n) n ((((dg.take j).map fun i=>al.getD i 0)++List.replicate (n-j) 0).map Dy)::.row 3 1 (Vs b17 n n) n (dg.map Bl)::H'') w) rfl (⟨0,_,by omega,hJm _ _ _ _ hlg hJ,rfl,rfl,hs⟩) fun m E w hI=>?_
   obtain ⟨j,G2,hj9,hJ,rfl,rfl,hs⟩:=hI
   have hbm:=hbm0.mono hs.le
   have hba:=hba0.mono hs.le
   have hab:=hab0.mono hs.le
   have hlg:=Cu.refl G2
   refine Wt 2 [] hs rfl<|Zy hs (Yc rfl (fun h24=>?_) fun h24=>?_)
   ·
    refine Wp 9 [0] hs rfl<|Zy hs (Be (j) underlying79 sizeOf3 rfl rfl rfl oM ?_)
    obtain ⟨dj,hdj⟩:∃ q9,q9=dg[j]'oM:=⟨_,rfl⟩
    have hdjl:dj<al.length:=by rw [hdj];exact hdlt _ (AaD _)
    refine Zy hs (Cm 1 rfl isAgg3 rfl (show (dg.map Bl)[j]?=some (Bl dj) from by rw [hdj];exact oP oM)<|Wp 6 [0] hs rfl<|Zy hs (Yg rfl (hba 0 _ rfl)<|Wp 1 [] hs rfl<|Zy hs (Ek hab dj underlying22 sizeOf5 rfl rfl rfl oM fun p32 hp32=>?_)))
    obtain ⟨xb,hxb⟩:∃ q9,q9=al[dj]'hdjl:=⟨_,rfl⟩
    rw [← hxb] at hp32
    refine Zy hs (Yg rfl (hp32)<|Zy hs (Be (j) underlying22 sizeOf5 rfl rfl rfl oM<|O_n (Bz hs sizeOf5 rfl rfl rfl oM fun _ hs =>Wp 2 [0] hs rfl<|Zy hs (Ya (s:=((j+1:Nat):Int)) rfl<|Wp 1 [] hs rfl ?_))))
    have hs:=hs.f1.f1
    refine Zx [0,2,4,5,7,12,13,21,22,23] rfl ⟨j+1,_,by omega,hJm _ _ _ _ hlg hJ,rfl,rfl,Bh hs (by rw [← fillW (xb:=xb) (show j<dg.length by omega) (show j<n by omega) (by rw [← hdj,Cn7.gD hdjl,hxb]),Aad])⟩
   refine Wp 4 [0] hs rfl ?_
   obtain rfl:n=j:=by omega
   rw [Aab oM,Aaw,AbH,AaX] at hs
   obtain ⟨_,hG_hwv0,hwv0,hs⟩:=hs.fixRow (noMt hs hfe.tl)
   have hwv:Bd _ (Vs b20 n n) (Hv al n k):=Bd.ofSl hwv0 (vH _ _ _).symm (by unfold Hv;rw [← hdg2])
   refine Wu 5 [] hs rfl ?_
   replace hlg:=hlg.mono hG_hwv0
   refine O_s (wS (H1:=H'') (H:=[_]) (hs.swap (A:=[_])) rfl rfl (hY _ _ _ _ _ (words_at (show n≤most by omega) hka) ⟨_,rfl,hwv⟩ hs.le (hJm _ _ _ _ hlg hJ)) fun v G'' H3 w' hR hG38 hs=>?_)
   replace hbm:=hbm.mono hG_hwv0
   replace hba:=hba.mono hG_hwv0
   replace hab:=hab.mono hG_hwv0
   rcases hR with ⟨rfl,hJ,hC⟩ | ⟨rfl,hK⟩
   ·
    replace hs:St _ _ (_::H3) _:=hs.swap (B:=[_])
    replace hfe:=So.trans hfe hC
    refine Wp 11 [0,0] hs rfl<|Zy hs (Ll (c:=(n:Int)-1) rfl rfl oM oM<|Wp 2 [0] hs rfl<|Zl [0,2,4,5,6,10,12,13] (fun m E w=>∃ (c:Nat) (z:Int) (mo2:Bool) (dg2:List Nat) (G2:Ah),c≤n∧z=(c:Int)-1∧dg2=dg.take c++(Ik al.length (dg.drop c)).1∧mo2=(Ik al.length (dg.drop c)).2∧J ((Mf al n).length+(k+1)) G2 H3∧m=c∧E=⟨[],[(0,.func (.yield lp) #[] #[]),(2,Vp ba),(4,Vi (n:Int)),(5,Vs b17 n n),(6,.bool mo2),(10,Vi z),(12,Vi (((most+1:Nat):Int))),(13,Vi (n:Int))]⟩∧St ⟨w0,G,Bj H0⟩ G2 (.row 3 1 (Vs b17 n n) n (dg2.map Bl)::H3) w) rfl (⟨n,_,false,dg,_,AaR _,rfl,by rw [Aab oM,List.drop_of_length_le oM];exact (AaX _).symm,by rw [List.drop_of_length_le oM];rfl,hJ,rfl,rfl,hs⟩) fun m E w hI=>?_)
    obtain ⟨c,z,mo2,dg2,G2,hc9,hz,hdg3,hmo2,hJ,hmc,rfl,hs⟩:=hI
    replace hbm:=hbm.mono hG38
    have hbm:=hbm0.mono hs.le
    replace hba:=hba.mono hG38
    have hba:=hba0.mono hs.le
    replace hab:=hab.mono hG38
    have hab:=hab0.mono hs.le
    replace hlg:=hlg.mono hG38
    have hlg:=Cu.refl G2
    have hd2l:dg2.length=n:=by rw [hdg3,AaB,Aag,sG,Abo];omega
    refine Wt 4 [] hs rfl<|Zy hs (Yc rfl (fun h43=>?_) fun h43=>?_)
    ·
     obtain ⟨c1,rfl⟩:∃ c1,c=c1+1:=⟨c-1,by omega⟩
     obtain rfl:z=(c1:Int):=by omega
     refine Wp 5 [0] hs rfl<|Fk rfl (fun h47=>?_) (fun h47=>?_)
     ·
      refine Og ?_
      obtain ⟨dv,hdv⟩:∃ q9,q9=dg2[c1]'oM:=⟨_,rfl⟩
      have hdvd:dg[c1]'oM=dv:=by rw [hdv];simp only [hdg3];rw [List.getElem_append_left Z55,List.getElem_take]
      have hdvl:dv<al.length:=by rw [← hdvd];exact hdlt _ (AaD _)
      refine Wu 3 [] hs rfl<|Bg [0,1,2,3,4,5,6,7,8,9,10] hs kR ?_
      replace hs:=hs.drew
      refine Xr [0,1,2,3] [] hs rfl<|Xt 4 hs rfl (Be (c1) underlying79 sizeOf3 rfl rfl rfl oM<|Xt 5 hs rfl (Cm 0 rfl isAgg3 rfl (show (dg2.map Bl)[c1]?=some (Bl dv) from by rw [hdv];exact oP oM)<|Xt 6 hs rfl (Ya (s:=((dv+1:Nat):Int)) rfl<|Xt 7 hs rfl (Yg rfl (hba 0 _ rfl)<|Xr [8] [] hs rfl<|Xt 9 hs rfl (Gq (c:=(((dv+1) % al.length:Nat):Int)) rfl rfl oM oM (Int.natCast_emod _ _).symm<|Xt 10 hs rfl (Be (c1) underlying79 sizeOf3 rfl rfl rfl oM<|Xn 11 rfl (Bz hs sizeOf3 rfl rfl rfl oM fun _ hs =>Xe (Zk [0,2,4,5,10,12,13] rfl<|Wu 3 [] hs rfl<|Zy hs (Be (c1) underlying79 sizeOf3 rfl rfl rfl oM<|Zy hs (Cm 0 rfl isAgg3 rfl (List.getElem?_set_self iA) ?_))))))))))
      refine Zy hs (My (t:=decide (0<(dv+1) % al.length)) rfl rfl rfl (by rw [decide_eq_true_iff];dsimp only [Jg];omega)<|Wp 4 [0] hs rfl<|Zy hs (Ll (c:=(c1:Int)-1) rfl rfl oM oM<|Wp 1 [] hs rfl ?_))
      have hm2f:(Ik al.length (dg.drop (c1+1))).2=false:=by rw [← hmo2];simpa using h47
      have hio:=inc_one (show c1<dg.length by omega) hdvd hm2f
      refine Zx [0,2,4,5,6,10,12,13] rfl ⟨c1,_,_,dg2.set c1 ((dv+1) % al.length),_,by omega,rfl,by rw [hdg3];exact hio.1,hio.2,hJm _ _ _ _ hlg hJ,rfl,rfl,by rw [Aad];exact hs⟩
     refine mM ?_
     have hst:=lC (a:=al.length) (c:=c1+1) (l:=dg) (.inr (by rw [← hmo2];simpa using h47))
     have hid:=Cn7.inc_dig hal0 n k hka
     rw [← hdg2] at hid
     refine ⟨_,?_,[(0,_),(2,_),(4,_),(5,_),(6,_),(12,_),(13,_)],⟨rfl,rfl,rfl,rfl,rfl,rfl,rfl,trivial⟩,⟨k+1,mo2,dg2,_,_,by omega,by rw [hmo2,hst.2,hid],by rw [hdg3,hst.1,hid],hJ,hfe,rfl,rfl,hs⟩⟩
     omega
    refine Wp 7 [0] hs rfl ?_
    have hst:=lC (a:=al.length) (c:=c) (l:=dg) (.inl oM)
    have hid:=Cn7.inc_dig hal0 n k hka
    rw [← hdg2] at hid
    refine ⟨_,?_,[(0,_),(2,_),(4,_),(5,_),(6,_),(12,_),(13,_)],⟨rfl,rfl,rfl,rfl,rfl,rfl,rfl,trivial⟩,⟨k+1,mo2,dg2,_,_,by omega,by rw [hmo2,hst.2,hid],by rw [hdg3,hst.1,hid],hJ,hfe,rfl,rfl,hs⟩⟩
    omega
   replace hs:St _ _ (_::H3) _:=hs.swap (B:=[_])
   refine Wp 3 [0] hs rfl<|As ?_
   refine By (vs:=[]) results134 rfl trivial ?_
   try dsimp only [tup]
   exact ⟨_,_,hs.drop,.inr hK⟩
  refine mM ?_
  refine Zr<|Zy hs (Ya (s:=((n+1:Nat):Int)) rfl<|Wp 1 [] hs rfl ?_)
  have hkn:k=al.length ^ n:=by rcases AaM k (al.length ^ n) with h9 | h9;exact absurd (hmo.trans (decide_eq_true h9)) (by rw [h18];exact Abj);omega
  refine Zx [0,2,12,13] rfl ⟨n+1,_,_,by omega,hJm _ _ _ _ hlg (by rw [Fg,← hkn];exact hJ),hfe,rfl,rfl,hs.drop⟩
 refine Wp 4 [0] hs rfl ?_
 try dsimp only [Ex.At,Ex.sqs,Ex.sq,Ex.lp,Ex.bk]
 try rw [show Nat.beq _ _=true from Nat.beq_refl _,cond_true]
 refine Pl (vs:=[]) results134 rfl trivial ?_
 try dsimp only [tup]
 obtain rfl:n=most+1:=by omega
 exact ⟨_,_,hs,.inl hJ⟩
theorem vI {bm ba ca most:Nat} {Aa:Option Addr} {al:List UInt8} (hbm:Cg G bm [Vi (most:Int)]) (hba:Cg G ba [.slice Aa al.length ca]) (hab:Bd G (.slice Aa al.length ca) al) (hal0:0<al.length) (hal:al.length≤1000) (hmost:most≤1000) :
    Vis prog 134 [Vp bm,Vp ba] RxW (Hw al most) G:=fun lp H0 G0 J K hle hJm hKm hY hJ0=>wrd1_ok (hbm.mono hle) (hba.mono hle) (hab.mono hle) hal0 hal hmost hJm hKm (fun n x v G' H' hx hv hl=>hY n x v G' H' hx hv hl) hJ0
theorem Kk {a b:Bool} (hu:x.P.underlying xt=some .bool) (h1:ev E o=some (.bool a)) (h2:ev E p=some (.bool b)) (hT:¬ a=b→K (Vt)) (hF:a=b→K (Vf)):Y x W ⟨d,.binOp .neq xt o p yt,ty,pos,aft,g⟩ E K:=by
  have hk:K (.bool (!(a == b))):=by
    by_cases h:a=b
    · rw [beq_iff_eq.2 h];exact hF h
    · rw [beq_eq_false_iff_ne.2 h];exact hT h
  refine Du (v:=.bool (!(a == b))) (fun f hf w _=>?_) hk
  have he:eqGuard .neq xt o p (.bool a) (.bool b)=pure ():=rfl
  have h:∀ q:Nat,(Op.equalIn (q+1) xt (.bool a) (.bool b)).run x.P w=.ok (a == b) w:=fun q=>by simp [Op.equalIn,run_underlying hu]
  have h':(binOp .neq xt (.bool a) (.bool b)).run x.P w=.ok (.bool (!(a == b))) w:=by
    simp only [binOp]
    simp [Op.equal,Op.maxDepth,h 9999]
  simp [execOp,hf.ev h1,hf.ev h2,he,h']
def lD (al:List UInt8):Bool:=(List.range (al.length-1)).all fun i=>decide ((al.getD i 0).toNat<(al.getD (i+1) 0).toNat)
def Ww (al:List UInt8) (mo:Int):Int:=if al.length<1∨4<al.length∨mo<0∨8<mo∨lD al=false then 1 else if 4096<(Mf al (mo.toNat+1)).length then 2 else 0
def To (t u:Tr) (al:List UInt8) (mo:Int):Option (List UInt8):=if Ww al mo=0 then Gi t u al mo.toNat else none
theorem bR {al:List UInt8} {mo:Int} (h:al.length<1∨4<al.length∨mo<0∨8<mo∨lD al=false):Ww al mo=1:=if_pos h
theorem Xw {al:List UInt8} {mo:Int} (h1:1≤al.length) (h2:al.length≤4) (h3:0≤mo) (h4:mo≤8) (h5:lD al=true):Ww al mo=if 4096<(Mf al (mo.toNat+1)).length then 2 else 0:=by
  unfold Ww
  refine if_neg fun h=>?_
  rcases h with h | h | h | h | h
  · omega
  · omega
  · omega
  · omega
  · rw [h5] at h;cases h
theorem Rk {t u:Tr} {al:List UInt8} {mo:Int} (h:¬ Ww al mo=0):To t u al mo=none:=if_neg h
theorem srtB_no {al:List UInt8} {i:Nat} (h:i+1<al.length) (h2:¬ (al.getD i 0).toNat<(al.getD (i+1) 0).toNat):lD al=false:=by
  unfold lD;rw [List.all_eq_false];exact ⟨i,Aae.2 oM,by simpa using h2⟩
theorem srtB_yes {al:List UInt8} (h:∀ i,i+1<al.length→(al.getD i 0).toNat<(al.getD (i+1) 0).toNat):lD al=true:=by
  unfold lD;rw [AbD];intro i hi;have:=Aae.1 hi;exact decide_eq_true (h i oM)
theorem sr_step {al:List UInt8} {i:Nat} {x y:UInt8} (h:∀ j,j<i→(al.getD j 0).toNat<(al.getD (j+1) 0).toNat) (hi:i+1<al.length) (hx:al[i]=x) (hy:al[i+1]=y) (h2:x.toNat<y.toNat):∀ j,j<i+1→(al.getD j 0).toNat<(al.getD (j+1) 0).toNat:=fun j hj=>by
  rcases AaM j i with h9 | h9
  · exact h j h9
  · have e:j=i:=by omega
    rw [e,Cn7.gD (show i<al.length by omega),Cn7.gD hi,hx,hy];exact h2
theorem bT {a m n:Nat} (al:List UInt8) (ha:al.length=a) (h4:a≤4) (hn:n≤9):(Mf al n).length≤87381∧a ^ n≤262144:=by
  subst ha
  have hp:∀ k,al.length ^ k≤4 ^ k:=fun k=>Nat.pow_le_pow_left h4 k
  have key:∀ k,(Mf al k).length≤(List.range k).foldl (fun s j=>s+4 ^ j) 0:=fun k=>by
    induction k with
    | zero=>exact AaR _
    | succ k ih=>rw [Fg,AbC,Aap];have:=hp k;simp only [Aao,List.foldl_nil];omega
  have h1:=key n;have h2:=hp n
  rcases (by omega:n=0∨n=1∨n=2∨n=3∨n=4∨n=5∨n=6∨n=7∨n=8∨n=9) with rfl | rfl | rfl | rfl | rfl | rfl | rfl | rfl | rfl | rfl<;>exact ⟨Aai h1 dC,Aai h2 dC⟩
theorem lE {t:Tr} (ht:Cn7.TrOk t):∀ (w:List UInt8) (s:Nat) (o:List UInt8),s<t.moves.length→Bo t s w=some o→o.length≤8*w.length+8
  | [],s,o,hs,h=>by
    rw [Bo] at h
    split at h
    · injection h with h;subst h;have:=(ht.en s hs).1;omega
    · cases h
  | x::w,s,o,hs,h=>by
    rw [Bo] at h
    have hm:=ht.mv hs x
    split at h
    · cases h
    · obtain ⟨o',h1,rfl⟩:=Option.map_eq_some_iff.1 h
      have:=lE ht w _ o' oM h1
      rw [AaB,Lt,AaZ];omega
theorem lF {t:Tr} (ht:Cn7.TrOk t) (w:List UInt8):((Bo t 0 w).getD []).length≤8*w.length+8:=by
  cases h:Bo t 0 w with
  | none=>exact Aas _
  | some o=>exact lE ht w 0 o ht.n1 h
theorem diff_t {t u:Tr} {w:List UInt8} (h:¬ (Bo t 0 w).isSome=(Bo u 0 w).isSome∨¬ (Bo t 0 w).getD []=(Bo u 0 w).getD []):Ip t u w=true:=by
  unfold Ip;refine decide_eq_true fun e=>?_
  rw [e] at h;rcases h with h | h<;>exact h rfl
theorem diff_f {t u:Tr} {w:List UInt8} (h:(Bo t 0 w).isSome=(Bo u 0 w).isSome) (h2:(Bo t 0 w).getD []=(Bo u 0 w).getD []):Ip t u w=false:=by
  unfold Ip;refine decide_eq_false fun e=>e ?_
  cases ha:Bo t 0 w<;>cases hb:Bo u 0 w<;>rw [ha,hb] at h h2<;>simp_all
theorem gQ {α:Type} {p:α→Bool}:∀ {l:List α} {n:Nat} {x:α},l[n]?=some x→(∀ j z,j<n→l[j]?=some z→p z=false)→p x=true→l.find? p=some x
  | [],n,x,h,_,_=>by cases h
  | a::l,0,x,h,_,hp=>by
    obtain rfl:a=x:=by simpa using h
    rw [List.find?_cons,hp]
  | a::l,n+1,x,h,hb,hp=>by
    rw [List.find?_cons,hb 0 a oM rfl]
    exact gQ (l:=l) (n:=n) iB (fun j z hj hz=>hb (j+1) z oM (by simpa using hz)) hp
theorem find_no {α:Type} {p:α→Bool} {l:List α} (h:∀ j z,j<l.length→l[j]?=some z→p z=false):l.find? p=none:=by
  rw [List.find?_eq_none];intro x hx
  obtain ⟨j,hj,rfl⟩:=AaQ.1 hx
  rw [h j _ hj (AaA hj)];exact Abj
theorem Xx {v v2 va:Value} {t u:Tr} {al:List UInt8} {mo:Int} (ht:Mp G v t) (hu:Mp G v2 u) (htok:Cn7.TrOk t) (hutok:Cn7.TrOk u) (hab:Bd G va al) (hT:Tab G) :
  Ba prog 27 [v,v2,.agg #[va,Vi mo]] G [] fun r G' H'=>H'=[]∧∃ w,r=.tuple #[w,.bool (To t u al mo).isSome,Vi (Ww al mo)]∧Bd G' w ((To t u al mo).getD []):=by
 obtain ⟨v1,v2,v3,v4,rfl,hTc,hTm,hTf,hTe⟩:=ht
 obtain ⟨A1,c1,rfl⟩:=hTc.slice
 obtain ⟨A2,c2,rfl⟩:=hTm.slice
 obtain ⟨A3,c3,rfl,_⟩:=id hTf
 obtain ⟨A4,c4,rfl⟩:=Eg hTe
 obtain ⟨v5,v6,v7,v8,rfl,hUc,hUm,hUf,hUe⟩:=hu
 obtain ⟨A5,c5,rfl⟩:=hUc.slice
 obtain ⟨A6,c6,rfl⟩:=hUm.slice
 obtain ⟨A7,c7,rfl,_⟩:=id hUf
 obtain ⟨A8,c8,rfl⟩:=Eg hUe
 obtain ⟨Aa,ca,rfl,_⟩:=id hab
 refine Ba.of_TM [(0,_),(1,_),(2,_)] func27 rfl ntmps27 sM rfl fun w0 hs=>?_
 have hTc0:=hTc
 have hTm0:=hTm
 have hTf0:=hTf
 have hTe0:=hTe
 have hUc0:=hUc
 have hUm0:=hUm
 have hUf0:=hUf
 have hUe0:=hUe
 have hT0:=hT
 have hab0:=hab
 refine Wt 2 [] hs rfl<|O_s (Sb hs rfl fun b3 _ hs=>O_s (Sb hs rfl fun b4 _ hs=>O_s (Sb hs rfl fun b5 _ hs=>O_s (Sa hs zeroValue22 rfl fun b6 _ hs=>O_s (Sa hs zeroValue4 rfl fun b7 _ hs=>O_s (Sa hs zeroValue41 rfl fun b8 _ hs=>Wp 1 [0] hs rfl ?_))))))
 have hs:=hs.f5
 obtain ⟨_,hGbhB3,hB3,hs⟩:=hs.fixBlk (fun k _=>Gb k)
 replace hB3:Cg _ b3 _:=hB3
 have hs:=hs.f4
 obtain ⟨_,hGbhB4,hB4,hs⟩:=hs.fixBlk (fun k _=>Gb k)
 replace hB4:Cg _ b4 _:=hB4
 have hs:=hs.f3
 obtain ⟨_,hGbhB5,hB5,hs⟩:=hs.fixBlk (fun k _=>Gb k)
 replace hB5:Cg _ b5 _:=hB5
 refine Wu 3 [] hs rfl ?_
 replace hB3:=hB3.mono (hGbhB4.trans hGbhB5)
 refine Zy hs (Db (vs:=[.slice A1 t.cls.length c1,.slice A2 t.moves.length c2,.slice A3 t.final.length c3,.slice A4 t.ends.length c4]) isAgg33 sizeOf33 rfl hB3.whole rfl ?_)
 have hGz:=hGbhB3.trans (hGbhB4.trans hGbhB5)
 replace hTc:=hTc.mono hGz
 replace hTm:=hTm.mono hGz
 replace hTf:=hTf.mono hGz
 replace hTe:=hTe.mono hGz
 refine O_s (Sp (Pb ⟨_,_,_,_,rfl,hTc,hTm,hTf,hTe⟩ htok) hs rfl fun v1 G' _ hR hG20 hs=>?_)
 obtain rfl:=hR
 refine Wp 2 [] hs rfl ?_
 replace hB4:=hB4.mono (hGbhB5.trans hG20)
 refine Zg hs rfl (Db (vs:=[.slice A5 u.cls.length c5,.slice A6 u.moves.length c6,.slice A7 u.final.length c7,.slice A8 u.ends.length c8]) isAgg33 sizeOf33 rfl hB4.whole rfl ?_)
 have hGz:=hGbhB3.trans (hGbhB4.trans (hGbhB5.trans hG20))
 replace hUc:=hUc.mono hGz
 replace hUm:=hUm.mono hGz
 replace hUf:=hUf.mono hGz
 replace hUe:=hUe.mono hGz
 refine Dh 22 rfl rfl (Sp (Pb ⟨_,_,_,_,rfl,hUc,hUm,hUf,hUe⟩ hutok) hs rfl fun v2 G' _ hR hG24 hs=>?_)
 obtain rfl:=hR
 refine Wp 4 [0] hs rfl ?_
 replace hB5:=hB5.mono (hG20.trans hG24)
 refine Zg hs rfl (Yg rfl (hB5 0 _ rfl)<|Wp 1 [] hs rfl ?_)
 have hGz:=hGbhB3.trans (hGbhB4.trans (hGbhB5.trans (hG20.trans hG24)))
 replace hT:=hT.mono hGz
 replace hab:=hab.mono hGz
 have hGz:=hG20.trans hG24
 replace hTc:=hTc.mono hGz
 replace hTm:=hTm.mono hGz
 replace hTf:=hTf.mono hGz
 replace hTe:=hTe.mono hGz
 replace hB3:=hB3.mono hGz
 replace hUc:=hUc.mono hG24
 replace hUm:=hUm.mono hG24
 replace hUf:=hUf.mono hG24
 replace hUe:=hUe.mono hG24
 replace hB4:=hB4.mono hG24
 refine Zg hs rfl (Yc rfl (fun h31=>?_) fun h31=>?_)
 ·
  refine Wp 21 [7,3,4,5,6,7,8,48] hs rfl<|O_n (Sd hs.f2 rfl rfl fun _ hs=>O_n (Sd hs.f2 rfl rfl fun _ hs=>O_n (Sd hs.f2 rfl rfl fun _ hs=>Wp 1 [0] hs rfl<|As<|Jk (Ds:=[]) (show St _ _ (Ju []++_) _ from hs) (vs:=[_,_,_]) results27 rfl (fun _ hs=>⟨⟨Bt 2 hs isAgg22 rfl rfl,Bt 1 hs isAgg4 rfl rfl,Bt 0 hs isAgg41 rfl rfl,trivial⟩,?_⟩))))
  try dsimp only [tup]
  have hE9:=bR (al:=al) (mo:=mo) oM
  rw [Rk (by rw [hE9];decide),hE9]
  exact hs.q ⟨_,rfl,Sl.nil _ _⟩
 refine Wp 3 [0] hs rfl<|Zg hs rfl (Yg rfl (hB5 0 _ rfl)<|Wp 1 [] hs rfl<|Zg hs rfl (Yc rfl (fun h37=>?_) fun h37=>?_))
 ·
  refine Wp 15 [7,3,4,5,6,7,8,48] hs rfl<|O_n (Sd hs.f2 rfl rfl fun _ hs=>O_n (Sd hs.f2 rfl rfl fun _ hs=>O_n (Sd hs.f2 rfl rfl fun _ hs=>Wp 1 [0] hs rfl<|As<|Jk (Ds:=[]) (show St _ _ (Ju []++_) _ from hs) (vs:=[_,_,_]) results27 rfl (fun _ hs=>⟨⟨Bt 2 hs isAgg22 rfl rfl,Bt 1 hs isAgg4 rfl rfl,Bt 0 hs isAgg41 rfl rfl,trivial⟩,?_⟩))))
  try dsimp only [tup]
  have hE9:=bR (al:=al) (mo:=mo) oM
  rw [Rk (by rw [hE9];decide),hE9]
  exact hs.q ⟨_,rfl,Sl.nil _ _⟩
 refine Wp 3 [1] hs rfl<|Zg hs rfl (Yg rfl (hB5 1 _ rfl)<|Zg hs rfl (Yc rfl (fun h42=>?_) fun h42=>?_))
 ·
  refine Wp 10 [7,3,4,5,6,7,8,48] hs rfl<|O_n (Sd hs.f2 rfl rfl fun _ hs=>O_n (Sd hs.f2 rfl rfl fun _ hs=>O_n (Sd hs.f2 rfl rfl fun _ hs=>Wp 1 [0] hs rfl<|As<|Jk (Ds:=[]) (show St _ _ (Ju []++_) _ from hs) (vs:=[_,_,_]) results27 rfl (fun _ hs=>⟨⟨Bt 2 hs isAgg22 rfl rfl,Bt 1 hs isAgg4 rfl rfl,Bt 0 hs isAgg41 rfl rfl,trivial⟩,?_⟩))))
  try dsimp only [tup]
  have hE9:=bR (al:=al) (mo:=mo) oM
  rw [Rk (by rw [hE9];decide),hE9]
  exact hs.q ⟨_,rfl,Sl.nil _ _⟩
 refine Wp 3 [1] hs rfl<|Zg hs rfl (Yg rfl (hB5 1 _ rfl)<|Zg hs rfl (Yc rfl (fun h47=>?_) fun h47=>?_))
 ·
  refine Wp 5 [7,3,4,5,6,7,8,48] hs rfl<|O_n (Sd hs.f2 rfl rfl fun _ hs=>O_n (Sd hs.f2 rfl rfl fun _ hs=>O_n (Sd hs.f2 rfl rfl fun _ hs=>Wp 1 [0] hs rfl<|As<|Jk (Ds:=[]) (show St _ _ (Ju []++_) _ from hs) (vs:=[_,_,_]) results27 rfl (fun _ hs=>⟨⟨Bt 2 hs isAgg22 rfl rfl,Bt 1 hs isAgg4 rfl rfl,Bt 0 hs isAgg41 rfl rfl,trivial⟩,?_⟩))))
  try dsimp only [tup]
  have hE9:=bR (al:=al) (mo:=mo) oM
  rw [Rk (by rw [hE9];decide),hE9]
  exact hs.q ⟨_,rfl,Sl.nil _ _⟩
 refine Wp 8 [7,3,4,5,6,7,8,48,0] hs rfl<|Zy hs (Yg rfl (hB5 0 _ rfl)<|Zy hs (Ys hab 1 al.length underlying22 sizeOf5 rfl ⟨_,_,rfl,rfl⟩ rfl oM oM fun s51 hs51=>?_))
 obtain ⟨A51,c51,rfl,_⟩:=id hs51
 refine Wp 3 [0] hs rfl ?_
 have hs:=hs.f1.f2
 have hdl:((al.drop 1).take (al.length-1)).length=al.length-1:=by rw [Aag,Abo];omega
 obtain ⟨Gp0,hGp⟩:=hs.name
 subst hGp
 have hTc_0:=hTc
 have hTm_0:=hTm
 have hTf_0:=hTf
 have hTe_0:=hTe
 have hUc_0:=hUc
 have hUm_0:=hUm
 have hUf_0:=hUf
 have hUe_0:=hUe
 have hT_0:=hT
 have hab_0:=hab
 have hB3_0:=hB3
 have hB4_0:=hB4
 have hB5_0:=hB5
 have hs51_0:=hs51
 refine Zl [3,4,5,6,7,8,51,52,53] (fun m E w=>∃ (i:Nat) (G2:Ah),Cu Gp0 G2∧i≤al.length-1∧(∀ j,j<i→(al.getD j 0).toNat<(al.getD (j+1) 0).toNat)∧m=al.length-1-i∧E=⟨[],[(3,Vp b3),(4,Vp b4),(5,Vp b5),(6,Vp b6),(7,Vp b7),(8,Vp b8),(51,.slice A51 ((al.drop 1).take (al.length-1)).length c51),(52,Vi ((((al.drop 1).take (al.length-1)).length:Nat):Int)),(53,Vi (i:Int))]⟩∧St ⟨w0,G,Bj []⟩ G2 [.blk b6 22 [Vn],.blk b7 4 [Vf],.blk b8 41 [Vi 0]] w) rfl (⟨0,_,Cu.refl _,by omega,(fun j hj=>absurd hj (Nat.not_lt_zero j)),rfl,rfl,hs⟩) fun m E w hI=>?_
 obtain ⟨i,G2,hlg0,hi9,hsr,rfl,rfl,hs⟩:=hI
 have hTc:=hTc_0.mono hlg0
 have hTm:=hTm_0.mono hlg0
 have hTf:=hTf_0.mono hlg0
 have hTe:=hTe_0.mono hlg0
 have hUc:=hUc_0.mono hlg0
 have hUm:=hUm_0.mono hlg0
 have hUf:=hUf_0.mono hlg0
 have hUe:=hUe_0.mono hlg0
 have hT:=hT_0.mono hlg0
 have hab:=hab_0.mono hlg0
 have hB3:=hB3_0.mono hlg0
 have hB4:=hB4_0.mono hlg0
 have hB5:=hB5_0.mono hlg0
 have hs51:=hs51_0.mono hlg0
 refine Wt 2 [] hs rfl<|Zy hs (Yc rfl (fun h54=>?_) fun h54=>?_)
 ·
  refine Wp 9 [0] hs rfl<|Zy hs (Ek hs51 i underlying22 sizeOf5 rfl rfl rfl oM fun p56 hp56=>?_)
  obtain ⟨y,hye⟩:∃ q9,al[i+1]'oM=q9:=⟨_,rfl⟩
  have hyd:((al.drop 1).take (al.length-1))[i]'oM=y:=by rw [List.getElem_take,List.getElem_drop];simp only [Nat.add_comm 1 i];exact hye
  rw [hyd] at hp56
  refine Zy hs (Yg rfl (hp56)<|Wp 6 [0,0] hs rfl<|Zy hs (Yg rfl (hB5 0 _ rfl)<|Wp 1 [] hs rfl<|Zy hs (Ek hab i underlying22 sizeOf5 rfl rfl rfl oM fun p61 hp61=>?_)))
  obtain ⟨x,hxe⟩:∃ q9,al[i]'oM=q9:=⟨_,rfl⟩
  rw [hxe] at hp61
  refine Zy hs (Yg rfl (hp61)<|Wp 1 [] hs rfl<|Zy hs (Yc rfl (fun h64=>?_) fun h64=>?_))
  ·
   refine Wp 4 [0] hs rfl<|O_n (Sd hs rfl rfl fun _ hs=>O_n (Sd hs.f1 rfl rfl fun _ hs=>O_n (Sd hs.f2 rfl rfl fun _ hs=>Wp 1 [0] hs rfl<|As<|Jk (Ds:=[]) (show St _ _ (Ju []++_) _ from hs) (vs:=[_,_,_]) results27 rfl (fun _ hs=>⟨⟨Bt 2 hs isAgg22 rfl rfl,Bt 1 hs isAgg4 rfl rfl,Bt 0 hs isAgg41 rfl rfl,trivial⟩,?_⟩))))
   try dsimp only [tup]
   have hE9:=bR (al:=al) (mo:=mo) (.inr (.inr (.inr (.inr (srtB_no (i:=i) oM (by rw [Cn7.gD (show i<al.length by omega),Cn7.gD (show i+1<al.length by omega),hxe,hye];omega))))))
   rw [Rk (by rw [hE9];decide),hE9]
   exact hs.q ⟨_,rfl,Sl.nil _ _⟩
  refine Wp 4 [0] hs rfl<|Zy hs (Ya (s:=((i+1:Nat):Int)) rfl<|Wp 1 [] hs rfl ?_)
  have hs:=hs.f2.f2.f2
  refine Zx [3,4,5,6,7,8,51,52,53] rfl ⟨i+1,_,hlg0,by omega,sr_step hsr oM hxe hye oM,rfl,rfl,hs⟩
 refine Wp 4 [0] hs rfl ?_
 have hsrt:lD al=true:=srtB_yes fun j hj=>by have:=hsr j oM;exact this
 refine Wu 10 [0,0] hs rfl ?_
 have hs:=hs.f2.f2.f2
 obtain ⟨Gp1,hGp⟩:=hs.name
 subst hGp
 have hTc_1:=hTc
 have hTm_1:=hTm
 have hTf_1:=hTf
 have hTe_1:=hTe
 have hUc_1:=hUc
 have hUm_1:=hUm
 have hUf_1:=hUf
 have hUe_1:=hUe
 have hT_1:=hT
 have hab_1:=hab
 have hB3_1:=hB3
 have hB4_1:=hB4
 have hB5_1:=hB5
 have hlg0_1:=hlg0
 refine Zl [3,4,5,6,7,8,11,12,13] (fun m E w=>∃ (n:Nat) (G2:Ah),Cu Gp1 G2∧n≤mo.toNat+1∧m=mo.toNat+1-n∧E=⟨[],[(3,Vp b3),(4,Vp b4),(5,Vp b5),(6,Vp b6),(7,Vp b7),(8,Vp b8),(11,Vi ((Mf al n).length:Int)),(12,Vi (n:Int)),(13,Vi ((al.length ^ n:Nat):Int))]⟩∧St ⟨w0,G,Bj []⟩ G2 [.blk b6 22 [Vn],.blk b7 4 [Vf],.blk b8 41 [Vi 0]] w) rfl (⟨0,_,Cu.refl _,by omega,rfl,by rw [Nat.pow_zero];rfl,hs⟩) fun m E w hI=>?_
 obtain ⟨n,G2,hlg1,hn9,rfl,rfl,hs⟩:=hI
 have hTc:=hTc_1.mono hlg1
 have hTm:=hTm_1.mono hlg1
 have hTf:=hTf_1.mono hlg1
 have hTe:=hTe_1.mono hlg1
 have hUc:=hUc_1.mono hlg1
 have hUm:=hUm_1.mono hlg1
 have hUf:=hUf_1.mono hlg1
 have hUe:=hUe_1.mono hlg1
 have hT:=hT_1.mono hlg1
 have hab:=hab_1.mono hlg1
 have hB3:=hB3_1.mono hlg1
 have hB4:=hB4_1.mono hlg1
 have hB5:=hB5_1.mono hlg1
 have hlg0:=hlg0_1.mono hlg1
 have hps:=bT (m:=0) al rfl (show al.length≤4 by omega) (show n≤9 by omega)
 refine Wt 5 [1] hs rfl<|Zy hs (Yg rfl (hB5 1 _ rfl)<|Zy hs (Yc rfl (fun h69=>?_) fun h69=>?_))
 ·
  refine Wp 9 [0] hs rfl<|Zy hs (Ya (s:=(((Mf al n).length+al.length ^ n:Nat):Int)) rfl<|Wp 5 [0,0] hs rfl<|Zy hs (Yg rfl (hB5 0 _ rfl)<|Wp 1 [] hs rfl<|Zy hs (iG (c:=((al.length ^ n*al.length:Nat):Int)) rfl rfl ((Int.natCast_mul _ _).symm) (by have:=(bT (m:=0) al rfl oM (show n+1≤9 by omega)).2;rw [Abm] at this;omega)<|Wp 4 [0] hs rfl<|Zy hs (Ya (s:=((n+1:Nat):Int)) rfl<|Wp 1 [] hs rfl ?_))))
  have hs:=hs.f2.f2.f2
  refine Zx [3,4,5,6,7,8,11,12,13] rfl ⟨n+1,_,hlg1,by omega,rfl,by rw [Fg,Abm],hs⟩
 refine Wp 3 [0] hs rfl ?_
 have hnm:n=mo.toNat+1:=by omega
 refine Wu 4 [] hs rfl<|Zy hs (Yc rfl (fun h81=>?_) fun h81=>?_)
 ·
  refine Wp 4 [0] hs rfl<|O_n (Sd hs rfl rfl fun _ hs=>O_n (Sd hs.f1 rfl rfl fun _ hs=>O_n (Sd hs.f2 rfl rfl fun _ hs=>Wp 1 [0] hs rfl<|As<|Jk (Ds:=[]) (show St _ _ (Ju []++_) _ from hs) (vs:=[_,_,_]) results27 rfl (fun _ hs=>⟨⟨Bt 2 hs isAgg22 rfl rfl,Bt 1 hs isAgg4 rfl rfl,Bt 0 hs isAgg41 rfl rfl,trivial⟩,?_⟩))))
  try dsimp only [tup]
  have hE9:Ww al mo=2:=by rw [Xw oM oM oM oM hsrt,if_pos (by rw [← hnm];omega)]
  rw [Rk (by rw [hE9];decide),hE9]
  exact hs.q ⟨_,rfl,Sl.nil _ _⟩
 refine Wp 3 [0] hs rfl ?_
 have hap0:Ww al mo=0:=by rw [Xw oM oM oM oM hsrt,if_neg (by rw [← hnm];omega)]
 have hal1:0<al.length:=by omega
 refine Wu 4 [0] hs rfl<|Zy hs (Yg rfl (hB5 0 _ rfl)<|Wp 1 [1] hs rfl ?_)
 have hmo:mo=((mo.toNat:Nat):Int):=(AcO oM).symm
 refine Zy hs (Yg rfl (hB5 1 (Bl mo.toNat) (by show some (Value.int .i64 mo)=some (Value.int .i64 ((mo.toNat:Nat):Int));rw [AcO oM]))<|O_s (Sp (words_ok) hs rfl fun v3 G' _ hR hG86 hs=>?_))
 obtain ⟨ba,bm,rfl,hQa,hQm⟩:=hR
 refine Wp 1 [0] hs rfl ?_
 have hs:=hs.f2.f2.f2
 replace hab:=hab.mono hG86
 have hV:=vI (most:=mo.toNat) (al:=al) hQm hQa hab hal1 oM oM
 refine Wu 1 [] hs rfl<|T_vis (fun n G' H'=>H'=[.blk b6 22 [Vn],.blk b7 4 [Vf],.blk b8 41 [Vi 0]]∧∀ (j:Nat) z,j<n→(Hw al mo.toNat)[j]?=some z→Ip t u z=false) (fun cd G' H'=>cd=.ret∧∃ x va,H'=[.blk b6 22 [va],.blk b7 4 [Vt],.blk b8 41 [Vi 0]]∧Bd G' va x∧Gi t u al mo.toNat=some x) hV (show St _ _ ([_,_,_]++[]) _ from hs) rfl func134 rfl kR ⟨rfl,fun j z h=>absurd h (Nat.not_lt_zero j)⟩ (fun _ _ _ _ _ h2=>h2) (fun _ _ _ _ h ⟨h1,x,va,h2,h3,h4⟩=>⟨h1,x,va,h2,h3.mono h,h4⟩) ?round ?done ?early
 replace hTc:=hTc.mono hG86
 replace hTm:=hTm.mono hG86
 replace hTf:=hTf.mono hG86
 replace hTe:=hTe.mono hG86
 replace hUc:=hUc.mono hG86
 replace hUm:=hUm.mono hG86
 replace hUf:=hUf.mono hG86
 replace hUe:=hUe.mono hG86
 replace hT:=hT.mono hG86
 replace hB3:=hB3.mono hG86
 replace hB4:=hB4.mono hG86
 case round =>
  rintro lq D rec n x v G' H2 hp ha hbd hst hpe hAg hx hv hle ⟨rfl,hJ⟩
  obtain ⟨state,pending,fn',tmps,params,assign,body,defers⟩:=rec
  dsimp only at hp ha hbd hst hpe hAg
  subst hst hpe
  obtain ⟨ux,rfl,hxB⟩:=hv
  subst hp ha hbd
  obtain ⟨Ax,cx,rfl,_⟩:=id hxB
  have hxl:=Cn7.words_len (AaF hx)
  have hrl1:=lF htok x
  have hrl2:=lF hutok x
  replace hTc:=hTc.mono hle
  replace hTm:=hTm.mono hle
  replace hTf:=hTf.mono hle
  replace hTe:=hTe.mono hle
  replace hUc:=hUc.mono hle
  replace hUm:=hUm.mono hle
  replace hUf:=hUf.mono hle
  replace hUe:=hUe.mono hle
  replace hT:=hT.mono hle
  replace hB3:=hB3.mono hle
  replace hB4:=hB4.mono hle
  refine Fl.of_TX hAg rfl rfl sM rfl fun w1 hs =>Wt 2 [] hs rfl<|Cr ⟨hs,fun w2 hs=>?_⟩
  refine Wt 3 [] hs rfl<|Zy hs (Db (vs:=[.slice A1 t.cls.length c1,.slice A2 t.moves.length c2,.slice A3 t.final.length c3,.slice A4 t.ends.length c4]) isAgg33 sizeOf33 rfl hB3.whole rfl<|Wp 1 [] hs rfl<|O_s (Sp (gE ⟨_,_,_,_,rfl,hTc,hTm,hTf,hTe⟩ htok hxB hT oM) hs rfl fun v4 G' _ hR hG91 hs=>?_))
  obtain ⟨x1,rfl,hx1⟩:=hR
  replace hUc:=hUc.mono hG91
  replace hUm:=hUm.mono hG91
  replace hUf:=hUf.mono hG91
  replace hUe:=hUe.mono hG91
  replace hT:=hT.mono hG91
  replace hB4:=hB4.mono hG91
  replace hxB:=hxB.mono hG91
  refine Wp 8 [7,4,6,7,8,14,15,16] hs rfl<|Zy hs (Db (vs:=[.slice A5 u.cls.length c5,.slice A6 u.moves.length c6,.slice A7 u.final.length c7,.slice A8 u.ends.length c8]) isAgg33 sizeOf33 rfl hB4.whole rfl<|Wp 1 [] hs rfl<|O_s (Sp (gE ⟨_,_,_,_,rfl,hUc,hUm,hUf,hUe⟩ hutok hxB hT oM) hs rfl fun v5 G' _ hR hG97 hs=>?_))
  obtain ⟨x2,rfl,hx2⟩:=hR
  replace hxB:=hxB.mono hG97
  replace hx1:=hx1.mono hG97
  refine Wp 10 [0] hs rfl<|Zy hs (Kk underlying4 rfl rfl (fun h102=>?_) (fun h102=>?_))
  ·
   refine Wp 11 [0] hs rfl<|O_n (Sd hs.f2 rfl rfl fun _ hs=>O_n (Sd hs.f3 rfl rfl fun _ hs=>O_n (Sd hs.f4 rfl rfl fun _ hs=>Wp 1 [3,6,7,8] hs rfl<|As ?_)))
   have hs:=hs.f1.f2.f4.f4
   exact ⟨_,_,hs,.inr ⟨rfl,_,.ret,rfl,rfl,x,_,rfl,hxB,gQ hx hJ (diff_t (.inl h102))⟩⟩
  refine Wp 3 [] hs rfl<|Dh 103 rfl rfl (Sp (beq7_ok hx1 hx2 oM oM) hs rfl fun v6 G' _ hR hG106 hs=>?_)
  obtain rfl:=hR
  refine Wp 3 [0] hs rfl ?_
  replace hxB:=hxB.mono hG106
  refine Fk rfl (fun h108=>?_) (fun h108=>?_)
  ·
   refine Wu 3 [] hs rfl<|O_n (Sd hs.f2 rfl rfl fun _ hs=>O_n (Sd hs.f3 rfl rfl fun _ hs=>O_n (Sd hs.f4 rfl rfl fun _ hs=>Wp 1 [3,6,7,8] hs rfl<|As ?_)))
   have hs:=hs.f1.f2.f4.f4
   exact ⟨_,_,hs,.inr ⟨rfl,_,.ret,rfl,rfl,x,_,rfl,hxB,gQ hx hJ (diff_t (.inr (by simpa using h108)))⟩⟩
  refine Og ?_
  have hs:=hs.f4.f4.f4.f4.f4
  refine ⟨_,_,hs,.inl ⟨rfl,_,rfl,⟨rfl,fun j z hj hz=>?_⟩,So.refl _⟩⟩
  rcases AaM j n with h | h
  · exact hJ j z h hz
  obtain rfl:j=n:=by omega
  obtain rfl:x=z:=by rw [hx] at hz;injection hz
  exact diff_f h102 (by simpa using h108)
 case done =>
  rintro lq D o' G' H2 w' ⟨rfl,hJ⟩ hC hle hs
  refine Wt 2 [] hs rfl<|O_n (Sd hs.f2 rfl rfl fun _ hs=>O_n (Sd hs.f3 rfl rfl fun _ hs=>O_n (Sd hs.f4 rfl rfl fun _ hs=>Wp 1 [0] hs rfl<|As ?_)))
  have hs:=hs.f3
  refine Jk (Ds:=[D]) (show St _ _ (Ju [D]++_) _ from hs) (vs:=[_,_,_]) results27 rfl (fun _ hs=>⟨⟨Bt 2 hs isAgg22 rfl rfl,Bt 1 hs isAgg4 rfl rfl,Bt 0 hs isAgg41 rfl rfl,trivial⟩,?_⟩)
  try dsimp only [tup]
  have hR9:To t u al mo=none:=by unfold To;rw [if_pos hap0];exact find_no hJ
  rw [hR9,hap0]
  exact hs.q ⟨_,rfl,Sl.nil _ _⟩
 case early =>
  rintro lq D o' cd G' H2 w' ⟨rfl,x,va,rfl,hxB,hfd⟩ hle hs
  obtain ⟨Ax,cx,rfl,_⟩:=id hxB
  refine As<|Jk (Ds:=[D]) (show St _ _ (Ju [D]++_) _ from hs) (vs:=[_,_,_]) results27 rfl (fun _ hs=>⟨⟨Bt 1 hs isAgg22 rfl rfl,Bt 2 hs isAgg4 rfl rfl,Bt 3 hs isAgg41 rfl rfl,trivial⟩,?_⟩)
  try dsimp only [tup]
  have hR9:To t u al mo=some x:=by unfold To;rw [if_pos hap0];exact hfd
  rw [hR9,hap0]
  exact hs.q ⟨_,rfl,hxB⟩
structure LI (t:Tb) (l:List Nat) (fr:List Int):Prop where
  nd:l.Nodup
  hd:l[0]?=some 0
  lt:∀ s∈l,s<t.next.length
  fl:fr.length=t.next.length
  mem:∀ s,s<t.next.length→(0≤fr.getD s (-1)↔s∈l)
  par:∀ j,0<j→j<l.length→∃ k,k<j∧fr.getD (l.getD j 0) (-1)=((l.getD k 0:Nat):Int)
  rch:∀ s∈l,∃ u,Cn7.aft t 0 u=s
theorem LI.ps {t:Tb} {l:List Nat} {fr:List Int} (h:LI t l fr):0<l.length:=by
  rcases AbP l.length with e | e
  · have:=h.hd;rw [AaL oM] at this;cases this
  · exact e
theorem LI.le {t:Tb} {l:List Nat} {fr:List Int} (h:LI t l fr):l.length≤t.next.length:=Cn7.len_le h.nd h.lt
theorem Vm {α:Type} {l:List α} {i:Nat} {a d:α} (h:i<l.length):(l.set i a).getD i d=a:=by rw [AaH,List.getElem?_set_self h];rfl
theorem gR {α:Type} {l:List α} {i j:Nat} {a d:α} (h:i≠j):(l.set i a).getD j d=l.getD j d:=by rw [AaH,List.getElem?_set_ne h,← AaH]
theorem Rl {α:Type} {l m:List α} {i:Nat} {d:α} (h:i<l.length):(l++m).getD i d=l.getD i d:=by rw [AaH,AaN h,← AaH]
theorem snocD {α:Type} {l:List α} {a d:α}:(l++[a]).getD l.length d=a:=by rw [AaH,AaW (AaR _),Aaw];rfl
theorem vJ {t:Tb} {u:List UInt8} {x:UInt8}:Cn7.aft t 0 (u++[x])=Cn7.step t (Cn7.aft t 0 u) x.toNat:=by unfold Cn7.aft;rw [Aap];rfl
theorem LI.add {t:Tb} {l:List Nat} {fr:List Int} (h:LI t l fr) {i b to:Nat} (hi:i<l.length) (hb:b<256) (hto:Cn7.step t l[i] b=to) (hlt:to<t.next.length) (hno:¬ 0≤fr.getD to (-1)):LI t (l++[to]) (fr.set to ((l[i]:Nat):Int)):=by
  have hn:to∉l:=fun hm=>hno ((h.mem to hlt).2 hm)
  have hp:=h.ps
  refine ⟨AbQ.2 ⟨h.nd,sM,fun a ha b hb e=>hn (by rw [AaE.1 hb] at e;rwa [← e])⟩,by rw [AaN hp];exact h.hd,fun s hs=>?_,by rw [AaP];exact h.fl,fun s hs=>?_,fun j hj0 hj=>?_,fun s hs=>?_⟩
  · rcases AaS.1 hs with hs | hs
    · exact h.lt s hs
    · rw [AaE.1 hs];exact hlt
  · by_cases e:to=s
    · subst e;rw [Vm (by rw [h.fl];exact hlt)];exact ⟨fun _=>AbF _ (AaE.2 rfl),fun _=>Int.natCast_nonneg _⟩
    · rw [gR e,h.mem s hs,AaS,AaE];exact ⟨.inl,fun h=>h.resolve_right (fun e2=>e e2.symm)⟩
  · rw [AaB,Aac] at hj
    rcases AaM j l.length with h1 | h1
    · obtain ⟨k,hk,hk2⟩:=h.par j hj0 h1
      refine ⟨k,hk,?_⟩
      rw [Rl h1,Rl oM,gR (fun e=>hn (by rw [e,Cn7.gD h1];exact AaD _))];exact hk2
    · obtain rfl:j=l.length:=by omega
      refine ⟨i,hi,?_⟩
      rw [Rl hi,Cn7.gD hi,snocD]
      exact Vm (by rw [h.fl];exact hlt)
  · rcases AaS.1 hs with hs | hs
    · exact h.rch s hs
    · rw [AaE.1 hs]
      obtain ⟨u,hu⟩:=h.rch l[i] (AaD _)
      exact ⟨u++[UInt8.ofNat b],by rw [vJ,hu,u8k hb];exact hto⟩
theorem LI.start {t:Tb} (h1:1≤t.next.length):LI t [0] ((List.replicate t.next.length (-1:Int)).set 0 0):=by
  refine ⟨sM,rfl,fun s hs=>by rw [AaE.1 hs];exact h1,by rw [AaP,AaJ],fun s hs=>?_,fun j hj0 hj=>by rw [Aac] at hj;omega,fun s hs=>⟨[],(AaE.1 hs).symm⟩⟩
  by_cases e:0=s
  · subst e;rw [Vm (by rw [AaJ];exact hs)];simp
  · rw [gR e,Cn7.gD (by rw [AaJ];exact hs),AcM,AaE];constructor
    · intro h;omega
    · intro h;exact absurd h.symm e
theorem LI.none {t:Tb} {l:List Nat} {fr:List Int} (h:LI t l fr) (hc:∀ j,j<l.length→∀ b,b<256→Cn7.step t (l.getD j 0) b∈l) (ha:∀ j,j<l.length→t.acc.getD (l.getD j 0) false=false) (u:List UInt8):Cn7.lb t 0 u=false:=by
  have key:∀ u:List UInt8,∀ s∈l,Cn7.aft t s u∈l:=fun u=>by
    induction u with
    | nil=>intro s hs;exact hs
    | cons x u ih =>
      intro s hs
      obtain ⟨j,hj,rfl⟩:=AaQ.1 hs
      have:=hc j hj x.toNat x.toNat_lt
      rw [Cn7.gD hj] at this
      exact ih _ this
  have h0:(0:Nat)∈l:=AaF h.hd
  obtain ⟨j,hj,e⟩:=AaQ.1 (key u 0 h0)
  rw [Cn7.lb_end,← e];have:=ha j hj;rwa [Cn7.gD hj] at this
theorem LI.some {t:Tb} {l:List Nat} {fr:List Int} (h:LI t l fr) {i:Nat} (hi:i<l.length) (ha:t.acc.getD l[i] false=true):∃ u,Cn7.lb t 0 u=true:=by
  obtain ⟨u,hu⟩:=h.rch l[i] (AaD _)
  exact ⟨u,by rw [Cn7.lb_end,hu];exact ha⟩
theorem int_at {l:List Int} {i:Nat} (h:i<l.length):(l.map (Value.int .i64))[i]?=some (Vi (l.getD i (-1))):=by rw [Aak,AaA h,Cn7.gD h];rfl
theorem rep_neg (n:Nat):List.replicate n (Value.int .i64 0)=(List.replicate n (0:Int)).map (Value.int .i64):=by rw [Abk]
theorem byte_at {l:List UInt8} {i:Nat} (h:i<l.length):(l.map Dy)[i]?=some (Dy (l.getD i 0)):=by rw [Aak,AaA h,Cn7.gD h];rfl
theorem leat_ok {v:Value} {t:Tb} (ht:iC G v t) (htok:Cn7.TOk t) (h5:t.next.length≤5000) :
  Ba prog 97 [v] G [] fun r G' H'=>H'=[]∧∃ (w:Value) (ok:Bool) (wd:List UInt8),r=.tuple #[w,.bool ok]∧Bd G' w wd∧(ok=true↔∃ u,Cn7.lb t 0 u=true)∧wd.length≤5000:=by
 obtain ⟨un,ua,rfl,hcl,hN,hA⟩:=ht
 obtain ⟨An,cn,rfl⟩:=Bi.slice hN
 obtain ⟨Aa,ca,rfl,_⟩:=id hA
 have hal:=htok.al
 have hn1:=htok.n1
 refine Ba.of_T [(0,_)] func97 rfl ntmps97 sM rfl fun w0 hs=>?_
 have hN0:=hN
 have hA0:=hA
 refine Wt 2 [] hs rfl<|O_s (Fj hs rfl (cs:=_) rfl fun b1 _ hs =>Wp 3 [0] hs rfl ?_)
 obtain ⟨_,hGbhB,hB,hs⟩:=hs.fixBlk (fun k _=>Gb k)
 replace hB:Cg _ b1 _:=hB
 refine Wu 3 [257] hs rfl<|Zy hs (Yg rfl (hB 257 _ (Gu hcl))<|Wp 1 [] hs rfl<|O_s (Dw (n:=t.next.length) (m:=t.next.length) hs underlying79 Qx rfl rfl rfl oM oM oM fun b16 _ hs =>Wp 5 [0,257] hs rfl<|Zy hs (Yg rfl (hB 257 _ (Gu hcl))<|Wp 1 [] hs rfl<|O_s (Dw (n:=t.next.length) (m:=t.next.length) hs underlying22 cK rfl rfl rfl oM oM oM fun b20 _ hs =>Wp 9 [0,0] hs rfl ?_))))
 have hs:=hs.f1
 rw [rep_neg,show List.replicate t.next.length (0:Int)=List.replicate 0 (-1)++List.replicate (t.next.length-0) 0 from rfl] at hs
 obtain ⟨Gp0,hGp⟩:=hs.name
 subst hGp
 have hB_0:=hB
 replace hN:=hN.mono hGbhB
 have hN_0:=hN
 replace hA:=hA.mono hGbhB
 have hA_0:=hA
 refine Zl [1,4,5,22,23] (fun m E w=>∃ (k:Nat) (G2:Ah),Cu Gp0 G2∧k≤t.next.length∧m=t.next.length-k∧E=⟨[],[(1,Vp b1),(4,Vs b16 t.next.length t.next.length),(5,Vs b20 t.next.length t.next.length),(22,Vi ((t.next.length:Nat):Int)),(23,Vi (k:Int))]⟩∧St ⟨w0,G,Bj []⟩ G2 [.row 3 1 (Vs b16 t.next.length t.next.length) t.next.length ((List.replicate k (-1)++List.replicate (t.next.length-k) 0).map (Value.int .i64)),.row 5 1 (Vs b20 t.next.length t.next.length) t.next.length (List.replicate t.next.length (.int .u8 0))] w) rfl (⟨0,_,Cu.refl _,by omega,rfl,rfl,hs⟩) fun m E w hI=>?_
 obtain ⟨k,G2,hlg0,hk9,rfl,rfl,hs⟩:=hI
 have hB:=hB_0.mono hlg0
 have hN:=hN_0.mono hlg0
 have hA:=hA_0.mono hlg0
 refine Wt 2 [] hs rfl<|Zy hs (Yc rfl (fun h24=>?_) fun h24=>?_)
 ·
  refine Wp 14 [0,0] hs rfl<|Zy hs (Be (k) underlying79 sizeOf3 rfl rfl rfl oM<|O_n (Bz hs sizeOf3 rfl rfl rfl oM fun _ hs =>Wp 2 [0] hs rfl<|Zy hs (Ya (s:=((k+1:Nat):Int)) rfl<|Wp 1 [] hs rfl ?_)))
  have hs:=hs.f1.f1
  refine Zx [1,4,5,22,23] rfl ⟨k+1,_,hlg0,by omega,rfl,rfl,Bh hs (by rw [List.replicate_succ',← No (by rw [AaJ]) (show k<t.next.length by omega),Aad])⟩
 refine Wp 4 [0] hs rfl ?_
 obtain rfl:k=t.next.length:=by omega
 rw [Aaw,AbH,AaX] at hs
 refine Wu 3 [] hs rfl<|Zy hs (Be (0) underlying79 sizeOf3 rfl rfl rfl oM<|O_n (Bz hs sizeOf3 rfl rfl rfl oM fun _ hs =>Wp 3 [0] hs rfl<|O_s (Bw hs underlying79 sizeOf3 zeroValue3 rfl rfl dC dC rfl (cs:=[_]) rfl rfl fun v1 _ hs _ =>Wp 7 [0,0] hs rfl ?_)))
 have hs:=hs.f2.f2.f2
 have hLI0:=LI.start htok.n1
 rw [Tj] at hs
 obtain ⟨Gp1,hGp⟩:=hs.name
 subst hGp
 have hB_1:=hB
 have hN_1:=hN
 have hA_1:=hA
 have hlg0_1:=hlg0
 refine Zl [1,4,5,7,8] (fun m E w=>∃ (i:Nat) (l:List Nat) (fr:List Int) (by_:List UInt8) (v7:Value) (G2:Ah),Cu Gp1 G2∧LI t l fr∧i≤l.length∧(∀ j,j<i→t.acc.getD (l.getD j 0) false=false)∧(∀ j,j<i→∀ b,b<256→Cn7.step t (l.getD j 0) b∈l)∧by_.length=t.next.length∧m=t.next.length-i∧E=⟨[],[(1,Vp b1),(4,Vs b16 t.next.length t.next.length),(5,Vs b20 t.next.length t.next.length),(7,v7),(8,Vi (i:Int))]⟩∧St ⟨w0,G,Bj []⟩ G2 [.row 3 1 (v7) l.length (l.map Bl),.row 3 1 (Vs b16 t.next.length t.next.length) t.next.length (fr.map (Value.int .i64)),.row 5 1 (Vs b20 t.next.length t.next.length) t.next.length (by_.map Dy)] w) rfl (⟨0,[0],_,_,_,_,Cu.refl _,hLI0,by omega,(fun j hj=>absurd hj (Nat.not_lt_zero j)),(fun j hj=>absurd hj (Nat.not_lt_zero j)),AaJ,rfl,rfl,Bh hs (by rw [Aad];rfl)⟩) fun m E w hI=>?_
 obtain ⟨i,l,fr,by_,v7,G2,hlg1,hLI,hil9,hna,hcl9,hbyl,rfl,rfl,hs⟩:=hI
 have hB:=hB_1.mono hlg1
 have hN:=hN_1.mono hlg1
 have hA:=hA_1.mono hlg1
 have hlg0:=hlg0_1.mono hlg1
 refine Wt 5 [] hs rfl<|Zy hs (Dl 0 rfl underlying79 rfl hs<|Zy hs (Yc rfl (fun h36=>?_) fun h36=>?_))
 ·
  refine Wp 3 [0] hs rfl ?_
  have hLle:=hLI.le
  obtain ⟨s,hsl⟩:∃ q9,q9=l[i]'oM:=⟨_,rfl⟩
  have hsN:s<t.next.length:=hLI.lt s (by rw [hsl];exact AaD _)
  have hfl:=hLI.fl
  obtain ⟨bl,capl,hzbl,_⟩:=hs.rowForm 0 rfl oM
  subst hzbl
  refine Wu 6 [] hs rfl<|Zy hs (Be (i) underlying79 sizeOf3 rfl rfl rfl oM<|Zy hs (Cm 0 rfl isAgg3 rfl (show (l.map Bl)[i]?=some (Bl s) from by rw [hsl];exact oP oM)<|Wp 6 [0,258] hs rfl<|Zy hs (Yg rfl (hB 258 _ (Ld hcl))<|Wp 1 [] hs rfl<|Zy hs (Ee s underlying30 sizeOf4 hA rfl rfl rfl (Dm oM) fun p46 hp46=>?_))))
  obtain ⟨ff,hff⟩:∃ q9,t.acc[s]'oM=q9:=⟨_,rfl⟩
  rw [hff] at hp46
  refine Zy hs (Yg rfl (hp46) ?_)
  cases ff
  ·
   refine Wp 7 [0,0] hs rfl ?_
   have hs:=hs.f2.f2.f2
   obtain ⟨Gp3,hGp⟩:=hs.name
   subst hGp
   have hB_3:=hB
   have hN_3:=hN
   have hA_3:=hA
   have hlg0_3:=hlg0
   have hlg1_3:=hlg1
   refine Zl [1,4,5,7,8,9,63] (fun m E w=>∃ (k:Nat) (l2:List Nat) (fr2:List Int) (by2:List UInt8) (v7b:Value) (G2:Ah),Cu Gp3 G2∧k≤256∧LI t l2 fr2∧(∃ mx,l2=l++mx)∧(∀ b,b<k→Cn7.step t s b∈l2)∧by2.length=t.next.length∧m=256-k∧E=⟨[],[(1,Vp b1),(4,Vs b16 t.next.length t.next.length),(5,Vs b20 t.next.length t.next.length),(7,v7b),(8,Vi (i:Int)),(9,Vi (s:Int)),(63,Vi (k:Int))]⟩∧St ⟨w0,G,Bj []⟩ G2 [.row 3 1 (v7b) l2.length (l2.map Bl),.row 3 1 (Vs b16 t.next.length t.next.length) t.next.length (fr2.map (Value.int .i64)),.row 5 1 (Vs b20 t.next.length t.next.length) t.next.length (by2.map Dy)] w) rfl (⟨0,l,fr,by_,_,_,Cu.refl _,by omega,hLI,⟨[],(AaX _).symm⟩,(fun b hb=>absurd hb (Nat.not_lt_zero b)),hbyl,rfl,rfl,hs⟩) fun m E w hI=>?_
   obtain ⟨k,l2,fr2,by2,v7b,G2,hlg3,hk9,hLI2,⟨mx,hl2⟩,hsc,hby2,rfl,rfl,hs⟩:=hI
   have hB:=hB_3.mono hlg3
   have hN:=hN_3.mono hlg3
   have hA:=hA_3.mono hlg3
   have hlg0:=hlg0_3.mono hlg3
   have hlg1:=hlg1_3.mono hlg3
   have hfl2:=hLI2.fl
   have hLle2:=hLI2.le
   refine Wt 2 [] hs rfl<|Zy hs (Yc rfl (fun h64=>?_) fun h64=>?_)
   ·
    refine Wp 12 [0,0] hs rfl<|Bg [0,1,2,3,4,5,6,7,8,9,10,11] hs kR ?_
    replace hs:=hs.drew
    refine Xr [0] [257] hs rfl<|Xt 1 hs rfl (Yg rfl (hB 257 _ (Gu hcl))<|Xr [2] [] hs rfl<|Xt 3 hs rfl (Ca hN s underlying35 sizeOf79 rfl rfl rfl oM fun p69 c69 hp69 hc69 hR69=>?_))
    obtain ⟨rr,herr⟩:∃ r,r=t.next[s]'oM:=⟨_,rfl⟩
    rw [← herr] at hR69
    obtain ⟨u69,rfl,hrr⟩:=hR69
    obtain ⟨A69,c69,rfl,_⟩:=id hrr
    have hlrr:rr.length=t.cells∧∀ z9∈rr,z9<t.next.length:=htok.row rr vW
    refine Xt 4 hs rfl (Yg rfl (hp69 0 _ rfl)<|Xr [5,6] [0] hs rfl<|Xt 7 hs rfl (Bp k underlying80 sizeOf3 rfl rfl rfl oM ?_))
    obtain ⟨c,hce⟩:∃ z,z=t.cell.getD k 0:=⟨_,rfl⟩
    have hcc:c<t.cells:=by rw [hce];exact htok.cellAt oM
    refine Xt 8 hs rfl (Yg rfl (hB k (Bl c) (by rw [hce];exact Qy hcl oM))<|Xt 9 hs rfl (Ct hrr c underlying79 sizeOf3 rfl rfl rfl oM fun p75 hp75=>?_))
    obtain ⟨to,hze⟩:∃ z,z=rr[c]'oM:=⟨_,rfl⟩
    rw [← hze] at hp75
    have htoN:to<t.next.length:=hlrr.2 to Z49
    refine Xt 10 hs rfl (Yg rfl (hp75)<|Xr [11] [] hs rfl<|Xe (Zk [1,4,5,7,8,9,11,12,63] rfl<|Wu 4 [] hs rfl<|Zy hs (Be (to) underlying79 sizeOf3 rfl rfl rfl oM<|Zy hs (Cm 1 rfl isAgg3 rfl (int_at oM)<|Zy hs (Yc rfl (fun h81=>?_) fun h81=>?_)))))
    ·
     refine Wp 10 [0] hs rfl<|Zy hs (Dj underlying3 underlying5 (c:=((UInt8.ofNat k).toNat:Int)) rfl (Dx _)<|Zy hs (Be (to) underlying79 sizeOf3 rfl rfl rfl oM<|O_n (Bz hs.f1 sizeOf3 rfl rfl rfl oM fun _ hs =>Zy hs (Be (to) underlying22 sizeOf5 rfl rfl rfl oM<|O_n (Bz hs.f2 sizeOf5 rfl rfl rfl oM fun _ hs =>Wp 4 [0] hs rfl<|O_s (Bw hs underlying79 sizeOf3 zeroValue3 rfl rfl dC dC rfl (cs:=[_]) rfl rfl fun v2 _ hs _=>?_))))))
     obtain ⟨_,hG93,hl93,hs⟩:=hs.fixRow noM
     refine O_s (Au hs.f2 underlying79 Qx rfl dC rfl rfl (hl93) (Cp rfl) oM oM fun v3 _ hs =>Wp 3 [7,1,4,5,7,8,9,63] hs rfl<|Zy hs (Ya (s:=((k+1:Nat):Int)) rfl<|Wp 1 [] hs rfl ?_))
     have hs:=hs.f1.f2.f2
     have hstp:Cn7.step t s k=to:=by unfold Cn7.step;rw [← hce,Qj oM Z61];simp only [← herr];exact hze.symm
     have hli:=hLI2.add (i:=i) (b:=k) (to:=to) (by rw [hl2,AaB];omega) oM (by rw [show l2[i]'(by rw [hl2,AaB];omega)=s from by simp only [hl2];rw [List.getElem_append_left oM];exact hsl.symm];exact hstp) htoN oM
     rw [show l2[i]'(by rw [hl2,AaB];omega)=s from by simp only [hl2];rw [List.getElem_append_left oM];exact hsl.symm] at hli
     replace hlg3:=hlg3.mono hG93
     refine Zx [1,4,5,7,8,9,63] rfl ⟨k+1,l2++[to],fr2.set to ((s:Nat):Int),by2.set to (UInt8.ofNat k),v3,_,hlg3,by omega,hli,⟨mx++[to],by rw [hl2,AaI]⟩,fun b hb=>(by rcases AaM b k with h9 | h9;exact AaY _ (hsc b h9);obtain rfl:k=b:=oM;rw [hstp];exact AbF _ (AaE.2 rfl)),by rw [AaP];exact hby2,rfl,rfl,Bh hs (by simp [Aad,Bl,Dy])⟩
    refine Wp 4 [0] hs rfl<|Zy hs (Ya (s:=((k+1:Nat):Int)) rfl<|Wp 1 [] hs rfl ?_)
    have hs:=hs.f2.f2.f2
    have hstp:Cn7.step t s k=to:=by unfold Cn7.step;rw [← hce,Qj oM Z61];simp only [← herr];exact hze.symm
    refine Zx [1,4,5,7,8,9,63] rfl ⟨k+1,l2,fr2,by2,v7b,_,hlg3,by omega,hLI2,⟨mx,hl2⟩,fun b hb=>(by rcases AaM b k with h9 | h9;exact hsc b h9;obtain rfl:k=b:=oM;rw [hstp];exact (hLI2.mem to htoN).1 oM),hby2,rfl,rfl,hs⟩
   refine Wp 4 [0] hs rfl<|Wu 2 [] hs rfl<|Zy hs (Ya (s:=((i+1:Nat):Int)) rfl<|Wp 1 [] hs rfl ?_)
   have hs:=hs.f2.f2.f2
   obtain rfl:k=256:=by omega
   refine Zx [1,4,5,7,8] rfl ⟨i+1,l2,fr2,by2,v7b,_,hlg1,hLI2,by rw [hl2,AaB];omega,fun j hj=>(by rcases AaM j i with h9 | h9;rw [hl2,Rl oM];exact hna j h9;obtain rfl:i=j:=oM;rw [hl2,Rl oM,Cn7.gD (show i<l.length by omega),← hsl,Cn7.gD oM,hff]),fun j hj b hb=>(by rcases AaM j i with h9 | h9;rw [hl2,Rl oM];exact AaY _ (hcl9 j h9 b hb);obtain rfl:i=j:=oM;rw [hl2,Rl oM,Cn7.gD (show i<l.length by omega),← hsl,← hl2];exact hsc b hb),hby2,rfl,rfl,hs⟩
  refine Wp 4 [0] hs rfl<|O_s (Bw hs underlying22 sizeOf5 zeroValue5 rfl rfl dC dC rfl (cs:=[]) rfl rfl fun v4 _ hs _=>?_)
  obtain ⟨_,hG48,hl48,hs⟩:=hs.fixRow noM
  have hwd0:Bd _ _ []:=hl48
  refine Wp 2 [0] hs rfl ?_
  have hs:=hs.f2.f2.f2
  have hsl0:=hsl
  have hws:=hs.le
  obtain ⟨Gp2,hGp⟩:=hs.name
  subst hGp
  replace hB:=hB.mono hG48
  have hB_2:=hB
  replace hN:=hN.mono hG48
  have hN_2:=hN
  replace hA:=hA.mono hG48
  have hA_2:=hA
  replace hlg0:=hlg0.mono hG48
  have hlg0_2:=hlg0
  replace hlg1:=hlg1.mono hG48
  have hlg1_2:=hlg1
  refine Wu 1 [] hs rfl<|Zl [4,5,9,10] (fun m E w=>∃ (p s:Nat) (wd:List UInt8) (v10:Value) (G2:Ah),Cu Gp2 G2∧p<l.length∧l.getD p 0=s∧s<t.next.length∧wd.length+p≤i∧Bd G2 v10 wd∧m=p∧E=⟨[],[(4,Vs b16 t.next.length t.next.length),(5,Vs b20 t.next.length t.next.length),(9,Vi (s:Int)),(10,v10)]⟩∧St ⟨w0,G,Bj []⟩ G2 [.row 3 1 (Vs bl l.length capl) l.length (l.map Bl),.row 3 1 (Vs b16 t.next.length t.next.length) t.next.length (fr.map (Value.int .i64)),.row 5 1 (Vs b20 t.next.length t.next.length) t.next.length (by_.map Dy)] w) rfl (⟨i,s,[],_,_,Cu.refl _,by omega,by rw [Cn7.gD (show i<l.length by omega)];exact hsl.symm,hsN,by simp,hwd0,rfl,rfl,hs⟩) fun m E w hI=>?_
  obtain ⟨p,s,wd,v10,G2,hlg2,hpl,hsp,hsN,hwl,hwd,hmp,rfl,hs⟩:=hI
  have hB:=hB_2.mono hlg2
  have hN:=hN_2.mono hlg2
  have hA:=hA_2.mono hlg2
  have hlg0:=hlg0_2.mono hlg2
  have hlg1:=hlg1_2.mono hlg2
  refine Wt 4 [] hs rfl<|Zy hs (Yc rfl (fun h50=>?_) fun h50=>?_)
  ·
   refine Wp 3 [0] hs rfl ?_
   have hp0:0<p:=by rcases AbP p with e | e;(have:=hLI.hd;rw [AaA oM] at this;injection this with this;rw [e,Cn7.gD hLI.ps,this] at hsp;omega);exact e
   obtain ⟨kp,hkp,hfk⟩:=hLI.par p hp0 oM
   refine Wu 5 [] hs rfl<|Zy hs (Be (s) underlying22 sizeOf5 rfl rfl rfl oM<|Zy hs (Cm 2 rfl isAgg5 rfl (byte_at oM)<|O_s (Bw hs underlying22 sizeOf5 zeroValue5 rfl rfl dC dC rfl (cs:=[_]) rfl rfl fun v5 _ hs _ =>Wp 1 [] hs rfl<|O_s (Au hs underlying22 cK rfl dC rfl rfl (hwd) (Pm) oM oM fun v6 _ hs =>Wp 5 [0] hs rfl<|Zy hs (Be (s) underlying79 sizeOf3 rfl rfl rfl oM<|Zy hs (Cm 2 rfl isAgg3 rfl (by rw [int_at oM,← hsp,hfk])<|Wp 1 [] hs rfl ?_))))))
   obtain ⟨_,hG_hwn,hwn,hs⟩:=hs.fixRow noM
   have hs:=hs.f2.f2.f2
   have hwd2:Bd _ _ (by_.getD s 0::wd):=Bd.ofSl hwn (by rw [AaZ];omega) rfl
   replace hlg2:=hlg2.mono hG_hwn
   refine Zx [4,5,9,10] rfl ⟨kp,l.getD kp 0,by_.getD s 0::wd,_,_,hlg2,by omega,rfl,hLI.lt _ (by rw [Cn7.gD (show kp<l.length by omega)];exact AaD _),by rw [AaZ];omega,hwd2,rfl,rfl,hs⟩
  refine Wp 3 [0] hs rfl<|Wu 6 [0] hs rfl<|As ?_
  refine By (vs:=[_,_]) results97 rfl ⟨rfl,rfl,trivial⟩ ?_
  try dsimp only [tup]
  exact hs.q ⟨_,true,wd,rfl,hwd,⟨fun _=>hLI.some (show i<l.length by omega) (by rw [← hsl0,Cn7.gD oM,hff]),fun _=>rfl⟩,by omega⟩
 refine Wp 3 [0] hs rfl<|Wu 5 [0] hs rfl<|As ?_
 refine By (vs:=[_,_]) results97 rfl ⟨rfl,rfl,trivial⟩ ?_
 try dsimp only [tup]
 obtain rfl:i=l.length:=by omega
 have hnone:=hLI.none hcl9 hna
 exact hs.q ⟨_,false,[],rfl,Sl.nil _ _,⟨fun h=>Wn,fun ⟨u,hu⟩=>(by rw [hnone u] at hu;cases hu)⟩,Aas _⟩
theorem leas_ok {v:Value} {d:Cy} (hd:Hm G v d) (hk:Cn7.DOk d) (h64:d.next.length≤64) (hT:Tab G) :
  Ba prog 37 [v] G [] fun r G' H'=>H'=[]∧∃ (w:Value) (ok:Bool) (wd:List UInt8),r=.tuple #[w,.bool ok]∧Bd G' w wd∧(ok=true↔∃ u,Cn7.lb (Av d) 0 u=true)∧wd.length≤5000:=by
 obtain ⟨vc,vn,va,rfl,hC,hN,hA⟩:=hd
 obtain ⟨Ac,cc,rfl⟩:=Bi.slice hC
 obtain ⟨An,cn,rfl⟩:=Bi.slice hN
 obtain ⟨Aa,ca,rfl,_⟩:=id hA
 have htok:=Cn7.tab_ok hk
 obtain ⟨X,hXe⟩:∃ X,X=Av d:=⟨_,rfl⟩
 have hX5:X.next.length≤5000:=by rw [hXe];show d.next.length≤5000;omega
 rw [← hXe] at htok ⊢
 refine Ba.of_T [(0,_)] func37 rfl ntmps37 sM rfl fun w0 hs=>?_
 have hC0:=hC
 have hN0:=hN
 have hA0:=hA
 have hT0:=hT
 refine Wt 2 [] hs rfl<|O_s (Sb hs rfl fun b1 _ hs=>Wp 7 [0,0] hs rfl<|O_s (Sp (Oz ⟨_,_,_,rfl,hC,hN,hA⟩ hk h64) hs rfl fun v1 G' _ hR hG5 hs=>?_))
 obtain rfl:=hR
 refine Wp 7 [0,0] hs rfl ?_
 replace hC:=hC.mono hG5
 replace hN:=hN.mono hG5
 replace hA:=hA.mono hG5
 replace hT:=hT.mono hG5
 refine O_s (Sp (Le ⟨_,_,_,rfl,hC,hN,hA⟩ hk.k2 hT) hs rfl fun v2 G' _ h8 hG8 hs=>?_)
 rw [← hXe] at h8
 obtain ⟨u8,w8,rfl,hc8,hn8,ha8⟩:=h8
 obtain ⟨N8,n8,rfl⟩:=Bi.slice hn8
 obtain ⟨A8,a8,rfl,_⟩:=id ha8
 refine O_s (Sp (leat_ok ⟨_,_,rfl,hc8,hn8,ha8⟩ htok hX5) hs rfl fun v3 G' _ hR hG9 hs=>?_)
 obtain ⟨wv,ok,wd,rfl,hwd,hok,hwl⟩:=hR
 refine Wp 5 [0] hs rfl<|As ?_
 refine By (vs:=[_,_]) results37 rfl ⟨rfl,rfl,trivial⟩ ?_
 try dsimp only [tup]
 exact hs.q ⟨wv,ok,wd,rfl,hwd,hok,hwl⟩
theorem TI116:TI prog 116 (.map none) 1 8:=TI.of kR
structure NS where
  b:Nat
  es:List (UInt8×Value×List Nat)
  fv:Value
  fl:List Nat
def rI (v:Value) (l:List Nat):Res:=.row 3 1 v l.length (l.map Bl)
def rE (e:UInt8×Value×List Nat):Res:=rI e.2.1 e.2.2
def eP (s:NS):List (UInt8×Value):=s.es.map fun e=>(e.1,e.2.1)
def lG (s:NS):Res:=.obj s.b (.map (esV Wc (eP s)) (eP s).length)
def cZ (s:NS):List Res:=lG s::(s.es.map rE++[rI s.fv s.fl])
def Oe (bn:Nat) (vr vf:Value) (ns:List NS):List Res:=[.blk bn 119 [vr,vf],.row 116 1 vr ns.length (ns.map fun s=>.map (some s.b)),.row 79 1 vf ns.length (ns.map (·.fv))]
def Ja (bn:Nat) (vr vf:Value) (ns:List NS):List Res:=Oe bn vr vf ns++ns.flatMap cZ
def Dd (ns:List NS):Nt:=⟨ns.map fun s=>s.es.map fun e=>(e.1,e.2.2),ns.map (·.fl)⟩
def eQ (s:NS):Nat:=s.fl.length+(s.es.map fun e=>e.2.2.length).sum
structure Il (B:Nat) (ns:List NS):Prop where
  nd:∀ s∈ns,(s.es.map (·.1)).Nodup
  sm:(ns.map eQ).sum≤B
theorem Xy {l:List Nat} {x:Nat} (h:x∈l):x≤l.sum:=by
  induction l with
  | nil=>cases h
  | cons y l ih =>
    rw [List.sum_cons]
    rcases AaV.1 h with rfl | h
    · omega
    · have:=ih h;omega
theorem gS:∀ {l:List Nat} {i x:Nat} (h:i<l.length),(l.set i x).sum+l[i]'h=l.sum+x
  | y::l,0,x,h=>by show x+l.sum+y=y+l.sum+x;omega
  | y::l,i+1,x,h=>by
    have:=gS (l:=l) (i:=i) (x:=x) (Nat.lt_of_succ_lt_succ h)
    show y+(l.set i x).sum+l[i]'(Nat.lt_of_succ_lt_succ h)=y+l.sum+x;omega
theorem Il.fl {B:Nat} {ns:List NS} (h:Il B ns):∀ s∈ns,s.fl.length≤B:=fun s hs=>by
  have h1:=Xy (Aal (f:=eQ) hs)
  have h2:s.fl.length≤eQ s:=Nat.le_add_right _ _
  exact Aai h2 (Aai h1 h.sm)
theorem Il.el {B:Nat} {ns:List NS} (h:Il B ns):∀ s∈ns,∀ e∈s.es,e.2.2.length≤B:=fun s hs e he=>by
  have h1:=Xy (Aal (f:=eQ) hs)
  have h2:=Xy (Aal (f:=fun e:UInt8×Value×List Nat=>e.2.2.length) he)
  have h3:(s.es.map fun e=>e.2.2.length).sum≤eQ s:=Nat.le_add_left _ _
  exact Aai h2 (Aai h3 (Aai h1 h.sm))
theorem Il.le {B B':Nat} (hB:B≤B') {ns:List NS} (h:Il B ns):Il B' ns:=⟨h.nd,Aai h.sm hB⟩
theorem Il.snoc {B:Nat} {ns:List NS} (h:Il B ns) (b:Nat) (v:Value):Il B (ns++[⟨b,[],v,[]⟩]):=by
  refine ⟨fun s hs=>?_,by rw [AaU,List.sum_append];exact h.sm⟩
  rcases AaS.1 hs with hs | hs
  · exact h.nd s hs
  · rw [AaE.1 hs];exact Aaz
theorem Il.set {B:Nat} {ns:List NS} (h:Il B ns) {i:Nat} {s:NS} (hi:i<ns.length) (h1:(s.es.map (·.1)).Nodup) (h2:eQ s=eQ ns[i]+1):Il (B+1) (ns.set i s):=by
  refine ⟨fun x hx=>?_,?_⟩
  · rcases AbB hx with hx | rfl
    · exact h.nd x hx
    · exact h1
  · have:=gS (l:=ns.map eQ) (i:=i) (x:=eQ s) (by rw [AaC];exact hi)
    rw [Aaa] at this
    rw [Aad]
    have:=h.sm;omega
theorem Gm (ns:List NS):(Dd ns).read.length=ns.length:=AaC _
theorem bU (ns:List NS) (b:Nat) (v:Value):Dd (ns++[⟨b,[],v,[]⟩])=Eb (Dd ns):=by unfold Dd Eb;simp
def Rm (es:List (UInt8×Value×List Nat)) (b:UInt8) (v:Value) (to:Nat):List (UInt8×Value×List Nat) :=
  if Bc b (es.map (·.1))<es.length then es.set (Bc b (es.map (·.1))) (b,v,(es.getD (Bc b (es.map (·.1))) (0,v,[])).2.2++[to]) else es++[(b,v,[to])]
theorem addE_K {es:List (UInt8×Value×List Nat)} {b:UInt8} {v:Value} {to:Nat}:(Rm es b v to).map (fun e=>(e.1,e.2.2))=Ui (es.map fun e=>(e.1,e.2.2)) b to:=by
  unfold Rm Ui
  have hk:(es.map fun e=>(e.1,e.2.2)).map (·.1)=es.map (·.1):=by rw [AbV];rfl
  simp only [hk,AaC]
  split
  · rename_i h
    rw [Aad]
    congr 1
    rw [Cn7.gD h,Cn7.gD Z54,Aaa]
  · rw [AaU];rfl
theorem sH {es:List (UInt8×Value×List Nat)} {b:UInt8} {v:Value} {to:Nat} (h:(es.map (·.1)).Nodup):((Rm es b v to).map (·.1)).Nodup:=by
  have h2:=Cn7.addK_nodup (m:=es.map fun e=>(e.1,e.2.2)) (by rw [AbV];exact h) b to
  rw [← addE_K (v:=v),AbV] at h2;exact h2
theorem addE_W {es:List (UInt8×Value×List Nat)} {b:UInt8} {v:Value} {to:Nat}:((Rm es b v to).map fun e=>e.2.2.length).sum=(es.map fun e=>e.2.2.length).sum+1:=by
  unfold Rm
  split
  · rename_i hp
    have:=gS (l:=es.map fun e=>e.2.2.length) (i:=Bc b (es.map (·.1))) (x:=((es.getD (Bc b (es.map (·.1))) (0,v,[])).2.2++[to]).length) (by rw [AaC];exact hp)
    rw [Aad]
    rw [Aaa,AaB,Aac,Cn7.gD hp] at this
    rw [AaB,Aac,Cn7.gD hp]
    omega
  · rw [AaU,List.sum_append];rfl
theorem sI {s s2:NS} {b:UInt8} {v:Value} {to:Nat} (h:s=s2):eQ { s with es:=Rm s.es b v to }=eQ s2+1:=by
  subst h;unfold eQ;dsimp only;rw [addE_W];omega
theorem nsW_free {s:NS} {v:Value} {to:Nat}:eQ { s with fv:=v,fl:=s.fl++[to] }=eQ s+1:=by
  unfold eQ;dsimp only;rw [AaB,Aac];omega
theorem addE_put {s:NS} {b:UInt8} {v:Value} {to:Nat}:Ot (eP s) b v=eP { s with es:=Rm s.es b v to }:=by
  unfold Ot Dz eP Rm
  have hk:(s.es.map fun e=>(e.1,e.2.1)).map (·.1)=s.es.map (·.1):=by rw [AbV];rfl
  simp only [hk,AaC]
  split
  · rw [Aad]
  · rw [AaU];rfl
theorem oQ {ns:List NS} {i:Nat} (h:i<ns.length) (b:UInt8) (v:Value) (to:Nat):Dd (ns.set i { ns[i] with es:=Rm ns[i].es b v to })=Iv (Dd ns) i b to:=by
  unfold Dd Iv
  rw [Aad,Aad]
  congr 1
  · dsimp only
    rw [addE_K,Cn7.gD Z54,Aaa]
  · apply Abb
    · simp
    · intro j h1 h2
      rw [List.getElem_set];split
      · rename_i e;subst e;rw [Aaa]
      · rfl
theorem oR {ns:List NS} {i:Nat} (h:i<ns.length) (v:Value) (to:Nat):Dd (ns.set i { ns[i] with fv:=v,fl:=ns[i].fl++[to] })=aT (Dd ns) i to:=by
  unfold Dd aT
  rw [Aad,Aad]
  congr 1
  · apply Abb
    · simp
    · intro j h1 h2
      rw [List.getElem_set];split
      · rename_i e;subst e;rw [Aaa]
      · rfl
  · rw [Cn7.gD Z54,Aaa]
section
variable {c:Ctx} {G:Ah} {w:World}
theorem bV {bn:Nat} {vr vf:Value} {ns:List NS} {i:Nat} (h:i<ns.length) (hs:St c G (Ja bn vr vf ns) w):St c G (lG ns[i]::(Oe bn vr vf ns++(ns[i].es.map rE++(rI ns[i].fv ns[i].fl::(ns.eraseIdx i).flatMap cZ)))) w:=by
  refine (St.pick (f:=cZ) (A:=Oe bn vr vf ns) i h hs).perm ?_
  show (lG ns[i]::((ns[i].es.map rE++[rI ns[i].fv ns[i].fl])++(Oe bn vr vf ns++(ns.eraseIdx i).flatMap cZ))).Perm _
  refine List.Perm.cons _ ?_
  rw [← AaI]
  refine (Abd.append_right _).trans ?_
  rw [AaI,AaI]
  exact List.Perm.refl _
theorem eR {bn:Nat} {ns:List NS} {i:Nat} (h:i<ns.length) {s:NS} (hb:s.b=ns[i].b) {vr2 vf2:Value} {X Y:List Value} (hX:X=ns.map fun s=>.map (some s.b)) (hY:Y=(ns.set i s).map (·.fv))
    (hs:St c G (lG s::([.blk bn 119 [vr2,vf2],.row 116 1 vr2 ns.length X,.row 79 1 vf2 ns.length Y]++(s.es.map rE++(rI s.fv s.fl::(ns.eraseIdx i).flatMap cZ)))) w):St c G (Ja bn vr2 vf2 (ns.set i s)) w:=by
  have hX2:X=(ns.set i s).map fun s=>.map (some s.b):=by
    rw [hX,Aad,hb]
    apply Abb
    · simp
    · intro j h1 h2
      rw [List.getElem_set];split
      · rename_i e;subst e;rw [Aaa]
      · rfl
  refine St.unpick (f:=cZ) (A:=Oe bn vr2 vf2 (ns.set i s)) i h s<|hs.perm ?_
  show (lG s::_).Perm (lG s::((s.es.map rE++[rI s.fv s.fl])++(Oe bn vr2 vf2 (ns.set i s)++(ns.eraseIdx i).flatMap cZ)))
  refine List.Perm.cons _ ?_
  rw [show Oe bn vr2 vf2 (ns.set i s)=[.blk bn 119 [vr2,vf2],.row 116 1 vr2 ns.length X,.row 79 1 vf2 ns.length Y] from by unfold Oe;rw [← hX2,← hY,AaP]]
  refine List.Perm.symm ?_
  rw [← AaI]
  refine (Abd.append_right _).trans ?_
  rw [AaI,AaI]
  exact List.Perm.refl _
theorem lH {A T:List Res} {es:List (UInt8×Value×List Nat)} {j:Nat} (h:j<es.length) (hs:St c G (A++(es.map rE++T)) w):St c G (rE es[j]::(A++((es.eraseIdx j).map rE++T))) w:=by
  refine hs.perm ?_
  have hp:(es.map rE).Perm (rE es[j]::(es.eraseIdx j).map rE):=by
    have:=(Mx j (AaA h)).symm.map rE
    rwa [Aar] at this
  exact ((hp.append_right T).append_left A).trans List.perm_middle
theorem eS {A T:List Res} {es:List (UInt8×Value×List Nat)} {j:Nat} (h:j<es.length) {e:UInt8×Value×List Nat} (hs:St c G (rE e::(A++((es.eraseIdx j).map rE++T))) w):St c G (A++((es.set j e).map rE++T)) w:=by
  have h2:j<(es.set j e).length:=by rw [AaP];exact h
  refine hs.perm ?_
  have hp:((es.set j e).map rE).Perm (rE e::(es.eraseIdx j).map rE):=by
    have:=(Mx j (AaA h2)).symm.map rE
    rwa [Aar,Aby,List.eraseIdx_set_eq] at this
  exact (((hp.append_right T).append_left A).trans List.perm_middle).symm
theorem row_push {A T:List Res} {es:List (UInt8×Value×List Nat)} {e:UInt8×Value×List Nat} (hs:St c G (rE e::(A++(es.map rE++T))) w):St c G (A++((es++[e]).map rE++T)) w:=by
  refine hs.perm (List.Perm.symm ?_)
  rw [AaU,AaI]
  refine (List.Perm.append_left A ?_).trans List.perm_middle
  exact List.perm_middle
end
theorem keyB:Ih prog 5 Wc:=Ih.byte underlying5
theorem bW {bn:Nat} {vr vf:Value} {ns:List NS} (hn:ns.length≤100000000) :
  Ba prog 114 [Vp bn] G (Ja bn vr vf ns) fun r _ H'=>r=Vi (ns.length:Int)∧∃ b vr' vf',H'=Ja bn vr' vf' (ns++[⟨b,[],Vn,[]⟩]):=by
 unfold Ja Oe
 refine Ba.of_T [(0,_)] func114 rfl ntmps114 sM rfl fun w0 hs=>?_
 have hM0:=hs.feetLt
 refine Wt 8 [0] hs rfl<|Zy hs (Ci rfl<|Wp 2 [0,0] hs rfl<|O_s (Fm hs fun b8 _ hs =>O_s (Cq hs hM0 underlying117 sizeOf116 zeroValue116 rfl rfl dC dC rfl (cs:=[_]) rfl rfl fun v1 _ _ hG9 hl9 hs =>O_s (Au hs.f2 underlying117 TI116 rfl dC rfl rfl (hl9) (Cp rfl) oM oM fun v2 _ hs =>Zy hs (Ci rfl<|Wp 1 [0] hs rfl<|O_n (Sd hs.f2 rfl (hs.f2.rowOne 1 rfl) fun _ hs=>Wp 5 [0] hs rfl<|Zy hs (Ci rfl<|Wp 2 [1,0] hs rfl<|O_s (Cq hs hM0 underlying35 sizeOf79 zeroValue79 rfl rfl dC dC rfl (cs:=[_]) rfl rfl fun v3 _ _ hG18 hl18 hs =>O_s (Au hs.f3 underlying35 gA rfl dC rfl rfl (hl18) (Cp rfl) oM oM fun v4 _ hs =>Zy hs (Ci rfl<|Wp 1 [1] hs rfl<|O_n (Sd hs.f1 rfl (hs.f1.rowOne 1 rfl) fun _ hs=>Wp 4 [1,0] hs rfl<|Zy hs (Ci rfl<|Wp 2 [0,0] hs rfl<|Zy hs (Dl 2 rfl underlying117 rfl hs<|Zy hs (Ll (c:=(ns.length:Int)) rfl rfl oM oM<|Wp 2 [0] hs rfl<|As ?_))))))))))))))
 have hs:=hs.nilRow 3 1
 have hs:=hs.f2.f3.f3.f3.f4
 refine Zz results114 rfl ?_
 have hs:=St.push (f:=cZ) (l:=ns) (A:=[_,_,_]) (⟨b8,[],Vn,[]⟩:NS) hs
 exact ⟨_,_,Bh hs (show _=Ja bn v2 v4 (ns++[⟨b8,[],Vn,[]⟩]) from by unfold Ja Oe;simp),rfl,_,_,_,rfl⟩
theorem gDn {α:Type} {l:List α} {i:Nat} {z:α} (h:l.length≤i):l.getD i z=z:=by simp [List.getD,AaL h]
def lkV (es:List (UInt8×Value×List Nat)) (b:UInt8):Value:=(es.getD (Bc b (es.map (·.1))) (0,Vn,[])).2.1
def lkL (es:List (UInt8×Value×List Nat)) (b:UInt8):List Nat:=(es.getD (Bc b (es.map (·.1))) (0,Vn,[])).2.2
theorem sJ {es:List (UInt8×Value×List Nat)} {b:UInt8} {B:Nat} (h:∀ e∈es,e.2.2.length≤B):(lkL es b).length≤B:=by
  unfold lkL
  rcases AaM (Bc b (es.map (·.1))) es.length with hp | hp
  · rw [Cn7.gD hp];exact h _ (AaD _)
  · rw [gDn hp];exact Aas _
theorem Nq (s:NS):(eP s).map (·.1)=s.es.map (·.1):=by unfold eP;rw [AbV];rfl
theorem oS (s:NS) (b:UInt8):Dz b (eP s)=Bc b (s.es.map (·.1)):=by unfold Dz;rw [Nq]
section
variable {x:Cx} {E:Env} {d:Option Tmp} {ty:TypeId} {pos:String} {aft:Array Edge} {g:Option (Nat×Bool)} {c:Ctx} {G:Ah} {H:List Res} {w:World}
theorem swp {A B T:List Res} (hs:St c G (A++(B++T)) w):St c G (B++(A++T)) w:=hs.perm (by rw [← AaI,← AaI];exact Abd.append_right T)
theorem Y_lkN {t kt et:TypeId} {m kx:Operand} {s:NS} {b:UInt8} (i:Nat) (hi:H[i]?=some (lG s)) (hu:x.P.underlying t=some (.map kt et)) (hk:Ih x.P kt Wc) (hz:∀ w,(zeroValue et).run x.P w=.ok (Vn) w) (hn:(s.es.map (·.1)).Nodup)
    (h1:ev E m=some (.map (some s.b))) (h2:ev E kx=some (Wc b)) (k:K (lkV s.es b)):Y x (St c G H) ⟨d,.lookup t m kx false,ty,pos,aft,g⟩ E K:=by
  have hl:(eP s).length=s.es.length:=AaC _
  refine aC (l:=eP s) (a:=b) i hi hu hk hz (by rw [Nq];exact hn) h1 h2 (fun h=>?_) fun h=>?_
  · rw [oS,hl] at h
    unfold lkV at k
    rw [gDn oM] at k;exact k
  · have hp:Bc b (s.es.map (·.1))<s.es.length:=by rw [← oS,← hl];exact h
    have e:((eP s)[Dz b (eP s)]'h).2=lkV s.es b:=by
      unfold lkV
      rw [Cn7.gD hp]
      have key:∀ (j:Nat) (_:j=Bc b (s.es.map (·.1))) (hj:j<(eP s).length),((eP s)[j]'hj).2=s.es[Bc b (s.es.map (·.1))].2.1:=by
        rintro _ rfl hj;exact congrArg Prod.snd (Aaa (fun (e:UInt8×Value×List Nat)=>(e.1,e.2.1)) (l:=s.es) (h:=hj))
      exact key _ (oS s b) h
    rw [e];exact k
theorem lI {A T:List Res} {es:List (UInt8×Value×List Nat)} (b:UInt8) (hs:St c G (A++(es.map rE++T)) w):St c G (rI (lkV es b) (lkL es b)::(A++((es.eraseIdx (Bc b (es.map (·.1)))).map rE++T))) w:=by
  rcases AaM (Bc b (es.map (·.1))) es.length with hp | hp
  · have h:=lH (A:=A) hp hs
    unfold lkV lkL
    rw [Cn7.gD hp];exact h
  · unfold lkV lkL
    rw [gDn hp,List.eraseIdx_of_length_le hp]
    exact hs.nilRow 3 1
theorem row_put {A T:List Res} {es:List (UInt8×Value×List Nat)} {b:UInt8} {v:Value} {to:Nat} (hs:St c G (rI v (lkL es b++[to])::(A++((es.eraseIdx (Bc b (es.map (·.1)))).map rE++T))) w):St c G (A++((Rm es b v to).map rE++T)) w:=by
  unfold Rm
  rcases AaM (Bc b (es.map (·.1))) es.length with hp | hp
  · rw [if_pos hp]
    refine eS (A:=A) hp (e:=(b,v,_)) ?_
    unfold lkL at hs
    rw [Cn7.gD hp] at hs ⊢;exact hs
  · rw [if_neg oM]
    refine row_push (A:=A) (e:=(b,v,[to])) ?_
    unfold lkL at hs
    rw [gDn hp,List.eraseIdx_of_length_le hp] at hs
    exact hs
theorem sK {bn:Nat} {vr vf nv:Value} {ns:List NS} {i to n:Nat} {sq:NS} {b:UInt8} {X:List Value} (h:i<ns.length) (hsq:sq=ns[i]) (hn:n=(lkL sq.es b).length+1) (hX:X=(lkL sq.es b).map Bl++[Bl to])
    (hs:St c G (.obj sq.b (.map (esV Wc (Ot (eP sq) b nv)) (Ot (eP sq) b nv).length)::.row 3 1 nv n X::(Oe bn vr vf ns++((sq.es.eraseIdx (Bc b (sq.es.map (·.1)))).map rE++(rI sq.fv sq.fl::(ns.eraseIdx i).flatMap cZ)))) w):St c G (Ja bn vr vf (ns.set i { sq with es:=Rm sq.es b nv to })) w:=by
  rw [addE_put (to:=to)] at hs
  have hs:=Bh (swp (A:=[_]) (B:=[_]) hs) (show _=rI nv (lkL sq.es b++[to])::((lG { sq with es:=Rm sq.es b nv to }::Oe bn vr vf ns)++((sq.es.eraseIdx (Bc b (sq.es.map (·.1)))).map rE++(rI sq.fv sq.fl::(ns.eraseIdx i).flatMap cZ))) from by subst hn hX;unfold rI;rw [AaU,AaB];rfl)
  have hs:=row_put hs
  refine eR h (s:={ sq with es:=Rm sq.es b nv to }) (X:=_) (Y:=_) (by rw [hsq]) rfl ?_ hs
  subst hsq
  rw [Aad]
  apply Abb
  · simp
  · intro j h1 h2
    rw [List.getElem_set];split
    · rename_i e;subst e;rw [Aaa]
    · rfl
theorem vK {bn:Nat} {vr vf:Value} {ns:List NS} {i:Nat} (h:i<ns.length) (hs:St c G (Ja bn vr vf ns) w):St c G (rI ns[i].fv ns[i].fl::(Oe bn vr vf ns++((lG ns[i]::ns[i].es.map rE)++(ns.eraseIdx i).flatMap cZ))) w:=by
  have h0:St c G ((lG ns[i]::(Oe bn vr vf ns++ns[i].es.map rE))++([rI ns[i].fv ns[i].fl]++(ns.eraseIdx i).flatMap cZ)) w:=Bh (bV h hs) sM
  have h1:St c G (rI ns[i].fv ns[i].fl::lG ns[i]::.blk bn 119 [vr,vf]::.row 116 1 vr ns.length (ns.map fun s=>.map (some s.b))::.row 79 1 vf ns.length (ns.map (·.fv))::(ns[i].es.map rE++(ns.eraseIdx i).flatMap cZ)) w:=Bh (swp h0) (by simp only [Oe,Abc,AbA,AaI])
  have h2:=((((h1.front 4 rfl rfl).front 4 rfl rfl).front 4 rfl rfl).front 3 rfl rfl)
  exact h2
theorem oT {bn:Nat} {vr vf nv:Value} {ns:List NS} {i to n:Nat} {X Y:List Value} (h:i<ns.length) (hn:n=ns[i].fl.length+1) (hX:X=ns[i].fl.map Bl++[Bl to]) (hY:Y=(ns.map (·.fv)).set i nv)
    (hs:St c G (.row 79 1 vf ns.length Y::.row 3 1 nv n X::(.blk bn 119 [vr,vf]::.row 116 1 vr ns.length (ns.map fun s=>.map (some s.b))::((lG ns[i]::ns[i].es.map rE)++(ns.eraseIdx i).flatMap cZ))) w):St c G (Ja bn vr vf (ns.set i { ns[i] with fv:=nv,fl:=ns[i].fl++[to] })) w:=by
  refine eR h (s:={ ns[i] with fv:=nv,fl:=ns[i].fl++[to] }) (X:=_) (Y:=_) rfl rfl (by rw [Aad]) ?_
  subst hn hX hY
  have h1:St c G (rI nv (ns[i].fl++[to])::lG ns[i]::.blk bn 119 [vr,vf]::.row 116 1 vr ns.length (ns.map fun s=>.map (some s.b))::.row 79 1 vf ns.length ((ns.map (·.fv)).set i nv)::(ns[i].es.map rE++(ns.eraseIdx i).flatMap cZ)) w:=by
    rw [show rI nv (ns[i].fl++[to])=Res.row 3 1 nv (ns[i].fl.length+1) (ns[i].fl.map Bl++[Bl to]) from by unfold rI;rw [AaU,AaB];rfl]
    exact (((hs.front 3 rfl rfl).front 3 rfl rfl).front 4 rfl rfl).front 4 rfl rfl
  have h2:=swp (T:=(ns.eraseIdx i).flatMap cZ) (A:=[rI nv (ns[i].fl++[to])]) (B:=lG ns[i]::.blk bn 119 [vr,vf]::.row 116 1 vr ns.length (ns.map fun s=>.map (some s.b))::.row 79 1 vf ns.length ((ns.map (·.fv)).set i nv)::ns[i].es.map rE) (Bh h1 sM)
  exact Bh h2 (by simp;rfl)
end
theorem lJ {n:Nt} {i to:Nat} {b:UInt8}:∀ {w:List UInt8},w≠[]→El n i (b::w) to=El (Iv (Eb n) i b n.read.length) n.read.length w to
  | _::_,_=>rfl
theorem lK {ns:List NS} {i:Nat} {sq:NS} (h:i<ns.length) (hsq:sq=ns[i]) (b:UInt8) (v:Value) (to:Nat):Dd (ns.set i { sq with es:=Rm sq.es b v to })=Iv (Dd ns) i b to:=by
  subst hsq;exact oQ h b v to
theorem lL {bn B:Nat} {vr0 vf0 v:Value} {ns:List NS} {i0 to:Nat} {wd:List UInt8} (hn:ns.length≤50000000) (hi:i0<ns.length) (hw:Bd G v wd) (hw64:wd.length≤1000) (hN:Il B ns) (hB:B≤1000000000) :
  Ba prog 116 [Vp bn,Vi (i0:Int),v,Vi (to:Int)] G (Ja bn vr0 vf0 ns) fun r _ H'=>∃ vr' vf' ns',H'=Ja bn vr' vf' ns'∧Dd ns'=El (Dd ns) i0 wd to∧Il (B+wd.length+1) ns'∧ns.length≤ns'.length∧ns'.length≤ns.length+wd.length:=by
 obtain ⟨Aw,cw,rfl,_⟩:=id hw
 refine Ba.of_T [(0,_),(1,_),(2,_),(3,_)] func116 rfl ntmps116 sM rfl fun w0 hs=>?_
 have hw0:=hw
 have hM0:=hs.feetLt
 refine Wt 5 [] hs rfl<|Zy hs (Yc rfl (fun h14=>?_) fun h14=>?_)
 ·
  refine Wp 1 [0] hs rfl ?_
  have hs:=vK hi hs
  replace hs:St _ _ (_::_::_::_::((lG ns[i0]::ns[i0].es.map rE)++(ns.eraseIdx i0).flatMap cZ)) _:=hs
  have hfl1:=hN.fl _ (AaD hi)
  obtain ⟨bF,cF,rfl,_⟩:=hs.rowForm 3 rfl oM
  have hsW:=hs.drop
  refine Wu 2 [] hs rfl<|Bg [0,1,2,3,4,5,6,7,8,9,10,11,12,13,14,15] hsW kR ?_
  replace hs:=hs.drew
  replace hsW:=hsW.drew
  refine Xr [0] [] hsW rfl<|Xt 1 hsW rfl (Ci rfl<|Xr [2,3,4,5] [1,0] hsW rfl<|Xt 6 hsW rfl (Ci rfl<|Xr [7,8,9] [1,0] hsW rfl<|Xt 10 hsW rfl (Be (i0) underlying35 sizeOf79 rfl rfl rfl oM<|Xt 11 hsW rfl (Cm 2 rfl isAgg79 rfl (show (ns.map (·.fv))[i0]?=_ from by rw [Aak,AaA hi];rfl) ?_))))
  refine Xr [12] [] hsW rfl ?_
  have hle:=hs.le
  refine Xo 13 rfl (Cq hs hM0 underlying79 sizeOf3 zeroValue3 rfl rfl dC dC rfl (cs:=[_]) rfl rfl fun v1 _ _ hG28 hl28 hs=>?_)
  have hsW:=hs.drop
  refine Ai hsW hle hG28 (lSr _) ?_
  have hle:=hs.le
  refine Xo 14 rfl (Au hs underlying79 Qx rfl dC rfl rfl (hl28) (Cp rfl) oM oM fun v2 _ hs=>?_)
  have hsW:=hs.drop
  refine Ai hsW hle (gLr _) (lSr _)<|Xt 15 hsW rfl (Be (i0) underlying35 sizeOf79 rfl rfl rfl oM<|Xn 16 rfl (Bz hs.f3.f3.f3.f3.f3 sizeOf79 rfl rfl (hs.f3.f3.f3.f3.f3.rowOne 1 rfl) oM fun _ hs =>Xe (Zk [] rfl<|As ?_)))
  refine By (vs:=[]) results116 rfl trivial ?_
  try dsimp only [tup]
  obtain rfl:wd=[]:=AbR oM
  have hs:=oT (to:=to) hi rfl rfl rfl hs
  exact ⟨_,_,hs,_,_,_,rfl,oR hi _ _,(Il.set (s:={ ns[i0] with fv:=_,fl:=ns[i0].fl++[to] }) hN hi (show (ns[i0].es.map (·.1)).Nodup from hN.nd _ (AaD hi)) nsW_free).le (by show B+1≤B+0+1;omega),by rw [AaP];exact AaR _,by rw [AaP];exact Nat.le_add_right _ _⟩
 refine Wp 9 [0] hs rfl ?_
 obtain ⟨k,hk⟩:∃ k,wd.length=k+1:=⟨wd.length-1,by omega⟩
 refine Zy hs (Ll (c:=(k:Int)) rfl rfl oM oM<|Zy hs (Ys hw 0 k underlying22 sizeOf5 rfl rfl ⟨_,_,rfl,rfl⟩ oM oM fun s35 hs35=>?_))
 obtain ⟨A35,c35,rfl,_⟩:=id hs35
 refine Wp 3 [0] hs rfl ?_
 have hsk:=hs35
 rw [List.drop_zero,Nat.sub_zero] at hsk
 have hkl:(wd.take k).length=k:=by rw [Aag];omega
 obtain ⟨Gp0,hGp⟩:=hs.name
 subst hGp
 have hw_0:=hw
 have hsk_0:=hsk
 refine Zl [0,1,2,3,35,36,37] (fun m E w=>∃ (j i:Nat) (nq:List NS) (vr vf:Value) (G2:Ah),Cu Gp0 G2∧j≤k∧i<nq.length∧El (Dd nq) i (wd.drop j) to=El (Dd ns) i0 wd to∧Il (B+j) nq∧nq.length=ns.length+j∧m=k-j∧E=⟨[],[(0,Vp bn),(1,Vi (i:Int)),(2,(.slice Aw wd.length cw)),(3,Vi (to:Int)),(35,.slice A35 (wd.take k).length c35),(36,Vi ((wd.take k).length:Int)),(37,Vi (j:Int))]⟩∧St ⟨w0,Gp0,Bj (Ja bn vr0 vf0 ns)⟩ G2 (Ja bn vr vf nq) w) rfl (⟨0,i0,ns,_,_,_,Cu.refl _,Aas _,hi,rfl,hN,rfl,rfl,rfl,hs⟩) fun m E w hI=>?_
 obtain ⟨j,i,nq,vr,vf,G2,hlg0,hj9,hiq,hlk,hNq,hnq,rfl,rfl,hs⟩:=hI
 have hw:=hw_0.mono hlg0
 have hsk:=hsk_0.mono hlg0
 have hw:=hw0.mono hs.le
 refine Wt 2 [] hs rfl<|Zy hs (Yc rfl (fun h38=>?_) fun h38=>?_)
 ·
  refine Wp 8 [0] hs rfl ?_
  obtain ⟨cb,hcb⟩:∃ z,z=wd[j]'oM:=⟨_,rfl⟩
  refine Zy hs (Ek hsk j underlying22 sizeOf5 rfl rfl rfl Z55 fun p39 hp39=>?_)
  rw [List.getElem_take,← hcb] at hp39
  refine Zy hs (Yg rfl (hp39)<|Wp 5 [0] hs rfl<|O_s (Et (H1:=Ja bn vr vf nq) (H:=[]) (Bh hs (AaX _).symm) rfl func114 rfl kR (bW oM) fun v42 G' H' _ hR hG42 hs=>?_))
  obtain ⟨rfl,bg,vr2,vf2,rfl⟩:=hR
  replace hs:=Bh hs (AaX _)
  refine Wp 2 [0] hs rfl ?_
  obtain ⟨nz6,hnz6⟩:∃ z,z=nq++[⟨bg,[],Vn,[]⟩]:=⟨_,rfl⟩
  rw [← hnz6] at hs
  have hiz6:i<nz6.length:=by rw [hnz6,AaB];omega
  obtain ⟨sq6,hsq6⟩:∃ z,z=nz6[i]:=⟨_,rfl⟩
  have hs:=bV hiz6 hs
  rw [← hsq6] at hs
  have hNz6:Il (B+j) nz6:=by rw [hnz6];exact hNq.snoc _ _
  have hnd6:=hNz6.nd sq6 (by rw [hsq6];exact AaD _)
  have hel6:=hNz6.el sq6 (by rw [hsq6];exact AaD _)
  have hfl6:=hNz6.fl sq6 (by rw [hsq6];exact AaD _)
  replace hs:St _ _ (_::_::_::_::(sq6.es.map rE++(rI sq6.fv sq6.fl::(nz6.eraseIdx i).flatMap cZ))) _:=hs
  obtain ⟨bR6,cR6,rfl,_⟩:=hs.rowForm 2 rfl oM
  have hs:=lI (A:=[_,_,_,_]) cb hs
  replace hs:St _ _ (_::_::_::_::_::((sq6.es.eraseIdx (Bc cb (sq6.es.map (·.1)))).map rE++(rI sq6.fv sq6.fl::(nz6.eraseIdx i).flatMap cZ))) _:=hs
  have hll6:=sJ (b:=cb) hel6
  have hsW:=hs.drop
  refine Wu 1 [] hs rfl<|Bg [0,1,2,3,4,5,6,7,8,9,10,11,12,13,14,15,16,17,18,19] hsW kR ?_
  replace hs:=hs.drew
  replace hsW:=hsW.drew
  refine Xr [0] [] hsW rfl<|Xt 1 hsW rfl (Ci rfl<|Xr [2,3,4] [0,1] hsW rfl<|Xt 5 hsW rfl (Be (i) underlying117 sizeOf116 rfl rfl rfl oM<|Xt 6 hsW rfl (Cm 2 rfl isAgg116 rfl (show (nz6.map fun s=>Value.map (some s.b))[_]?=_ from by rw [Aak,AaA hiz6,← hsq6];rfl) ?_)))
  refine Xr [7,8] [] hsW rfl<|Xt 9 hsW rfl (Ci rfl<|Xr [10,11,12] [0,1] hsW rfl<|Xt 13 hsW rfl (Be (i) underlying117 sizeOf116 rfl rfl rfl oM<|Xt 14 hsW rfl (Cm 2 rfl isAgg116 rfl (show (nz6.map fun s=>Value.map (some s.b))[_]?=_ from by rw [Aak,AaA hiz6,← hsq6];rfl) ?_)))
  refine Xr [15] [] hsW rfl<|Xt 16 hsW rfl (Y_lkN 0 rfl underlying116 keyB zeroValue79 hnd6 rfl rfl<|Xr [17] [] hsW rfl ?_)
  have hle:=hs.le
  refine Xo 18 rfl (Cq hs hM0 underlying79 sizeOf3 zeroValue3 rfl rfl dC dC rfl (cs:=[_]) rfl rfl fun v3 _ _ hG61 hl61 hs=>?_)
  have hsW:=hs.drop
  replace hlg0:=hlg0.mono (hG42.trans hG61)
  refine Ai hsW hle hG61 (lSr _) ?_
  have hle:=hs.le
  refine Xo 19 rfl (Au hs underlying79 Qx rfl dC rfl rfl (hl61) (Cp rfl) oM oM fun v4 _ hs=>?_)
  have hsW:=hs.drop
  refine Ai hsW hle (gLr _) (lSr _)<|Xn 20 rfl (fG hs.f1 underlying116 keyB (by rw [Nq];exact hnd6) rfl rfl rfl fun _ hs =>Xe (Zk [0,2,3,10,35,36,37] rfl<|Wu 5 [0] hs rfl<|Zy hs (Ya (s:=((j+1:Nat):Int)) rfl<|Wp 1 [] hs rfl ?_)))
  have hs:=hs.f4.f4.f4.f4.f4
  have hs:=sK (to:=nq.length) hiz6 hsq6 sM rfl hs
  refine Zx [0,1,2,3,35,36,37] rfl ⟨j+1,nq.length,_,_,_,_,hlg0,by omega,by rw [AaP,hnz6,AaB];exact Nat.lt_succ_self _,by rw [lK hiz6 hsq6,hnz6,bU,← hlk,Aaq (show j<wd.length by omega),← hcb,lJ (by intro h;have:=congrArg List.length h;rw [Abo] at this;simp at this;omega),Gm],hNz6.set hiz6 (sH hnd6) (sI hsq6),by rw [AaP,hnz6,AaB];show nq.length+1=_;omega,rfl,rfl,hs⟩
 refine Wp 4 [0] hs rfl ?_
 obtain rfl:k=j:=by omega
 refine Wu 5 [] hs rfl<|Zy hs (Ll (c:=(k:Int)) rfl rfl oM oM<|Zy hs (Ek hw k underlying22 sizeOf5 rfl rfl rfl oM fun p69 hp69=>?_))
 obtain ⟨lb,hlb⟩:∃ z,z=wd[k]'oM:=⟨_,rfl⟩
 rw [← hlb] at hp69
 refine Zy hs (Yg rfl (hp69)<|Wp 2 [0] hs rfl ?_)
 obtain ⟨nz10,hnz10⟩:∃ z,z=nq:=⟨_,rfl⟩
 rw [← hnz10] at hs
 have hiz10:i<nz10.length:=by rw [hnz10];exact hiq
 obtain ⟨sq10,hsq10⟩:∃ z,z=nz10[i]:=⟨_,rfl⟩
 have hs:=bV hiz10 hs
 rw [← hsq10] at hs
 have hNz10:Il (B+k) nz10:=by rw [hnz10];exact hNq
 have hnd10:=hNz10.nd sq10 (by rw [hsq10];exact AaD _)
 have hel10:=hNz10.el sq10 (by rw [hsq10];exact AaD _)
 have hfl10:=hNz10.fl sq10 (by rw [hsq10];exact AaD _)
 replace hs:St _ _ (_::_::_::_::(sq10.es.map rE++(rI sq10.fv sq10.fl::(nz10.eraseIdx i).flatMap cZ))) _:=hs
 obtain ⟨bR10,cR10,rfl,_⟩:=hs.rowForm 2 rfl oM
 have hs:=lI (A:=[_,_,_,_]) lb hs
 replace hs:St _ _ (_::_::_::_::_::((sq10.es.eraseIdx (Bc lb (sq10.es.map (·.1)))).map rE++(rI sq10.fv sq10.fl::(nz10.eraseIdx i).flatMap cZ))) _:=hs
 have hll10:=sJ (b:=lb) hel10
 have hsW:=hs.drop
 refine Bg [0,1,2,3,4,5,6,7,8,9,10,11,12,13,14,15,16,17,18,19] hsW kR ?_
 replace hs:=hs.drew
 replace hsW:=hsW.drew
 refine Xr [0] [] hsW rfl<|Xt 1 hsW rfl (Ci rfl<|Xr [2,3,4] [0,1] hsW rfl<|Xt 5 hsW rfl (Be (i) underlying117 sizeOf116 rfl rfl rfl oM<|Xt 6 hsW rfl (Cm 2 rfl isAgg116 rfl (show (nz10.map fun s=>Value.map (some s.b))[_]?=_ from by rw [Aak,AaA hiz10,← hsq10];rfl) ?_)))
 refine Xr [7,8] [] hsW rfl<|Xt 9 hsW rfl (Ci rfl<|Xr [10,11,12] [0,1] hsW rfl<|Xt 13 hsW rfl (Be (i) underlying117 sizeOf116 rfl rfl rfl oM<|Xt 14 hsW rfl (Cm 2 rfl isAgg116 rfl (show (nz10.map fun s=>Value.map (some s.b))[_]?=_ from by rw [Aak,AaA hiz10,← hsq10];rfl) ?_)))
 refine Xr [15] [] hsW rfl<|Xt 16 hsW rfl (Y_lkN 0 rfl underlying116 keyB zeroValue79 hnd10 rfl rfl<|Xr [17] [] hsW rfl ?_)
 have hle:=hs.le
 refine Xo 18 rfl (Cq hs hM0 underlying79 sizeOf3 zeroValue3 rfl rfl dC dC rfl (cs:=[_]) rfl rfl fun v5 _ _ hG89 hl89 hs=>?_)
 have hsW:=hs.drop
 refine Ai hsW hle hG89 (lSr _) ?_
 have hle:=hs.le
 refine Xo 19 rfl (Au hs underlying79 Qx rfl dC rfl rfl (hl89) (Cp rfl) oM oM fun v6 _ hs=>?_)
 have hsW:=hs.drop
 refine Ai hsW hle (gLr _) (lSr _)<|Xn 20 rfl (fG hs.f1 underlying116 keyB (by rw [Nq];exact hnd10) rfl rfl rfl fun _ hs=>?_)
 have hs:=hs.f4.f4.f4.f4.f4
 refine Fu kR (Pl (vs:=[]) results116 rfl trivial ?_)
 try dsimp only [tup]
 have hs:=sK (to:=to) hiz10 hsq10 sM rfl hs
 exact ⟨_,_,hs,_,_,_,rfl,by rw [lK hiz10 hsq10,hnz10,← hlk,Aaq (show k<wd.length by omega),← hlb,AbU oM];rfl,(hNz10.set hiz10 (sH hnd10) (sI hsq10)).le oM,by rw [AaP,hnz10];omega,by rw [AaP,hnz10];omega⟩
theorem keyQ:Ih prog 97 Gx:=Ih.pair underlying97 sizeOf3 isAgg3 underlying3
def eT (km:List (QQ×Nat)):List (QQ×Value):=km.map fun e=>(e.1,Bl e.2)
def dA (bm:Nat) (km:List (QQ×Nat)) (bn:Nat) (vr vf:Value) (ns:List NS):List Res:=.obj bm (.map (esV Gx (eT km)) (eT km).length)::Ja bn vr vf ns
def Jp (km:List (QQ×Nat)) (ns:List NS):Kc:=⟨Dd ns,km.map (·.1),km.map (·.2)⟩
theorem gT (km:List (QQ×Nat)):(eT km).map (·.1)=km.map (·.1):=by unfold eT;rw [AbV];rfl
theorem gU (km:List (QQ×Nat)) (k:QQ):Dz k (eT km)=Bc k (km.map (·.1)):=by unfold Dz;rw [gT]
theorem putM_new {km:List (QQ×Nat)} {k:QQ} {a:Nat} (h:¬ Bc k (km.map (·.1))<km.length):Ot (eT km) k (Bl a)=eT (km++[(k,a)]):=by
  unfold Ot
  rw [gU,if_neg (by unfold eT;rw [AaC];exact h)]
  unfold eT;rw [AaU];rfl
section
variable {x:Cx} {E:Env} {d:Option Tmp} {ty:TypeId} {pos:String} {aft:Array Edge} {g:Option (Nat×Bool)} {c:Ctx} {G:Ah} {H:List Res} {w:World}
theorem Y_lkM {t kt et:TypeId} {m kx:Operand} {bm:Nat} {km:List (QQ×Nat)} {k:QQ} (i:Nat) (hi:H[i]?=some (.obj bm (.map (esV Gx (eT km)) (eT km).length))) (hu:x.P.underlying t=some (.map kt et)) (hk:Ih x.P kt Gx) (hz:∀ w,(zeroValue et).run x.P w=.ok (Vi 0) w) (hn:(km.map (·.1)).Nodup)
    (h1:ev E m=some (.map (some bm))) (h2:ev E kx=some (Gx k)) (kf:¬ Bc k (km.map (·.1))<km.length→K (.tuple #[Vi 0,Vf])) (kt':Bc k (km.map (·.1))<km.length→K (.tuple #[Vi (((km.map (·.2)).getD (Bc k (km.map (·.1))) 0:Nat):Int),Vt])):Y x (St c G H) ⟨d,.lookup t m kx true,ty,pos,aft,g⟩ E K:=by
  have hl:(eT km).length=km.length:=AaC _
  refine tO (l:=eT km) (a:=k) i hi hu hk hz (by rw [gT];exact hn) h1 h2 (fun h=>kf (by rw [gU,hl] at h;exact h)) fun h=>?_
  have hp:Bc k (km.map (·.1))<km.length:=by rw [← gU,← hl];exact h
  have e:((eT km)[Dz k (eT km)]'h).2=Vi (((km.map (·.2)).getD (Bc k (km.map (·.1))) 0:Nat):Int):=by
    rw [Cn7.gD (by rw [AaC];exact hp),Aaa]
    have key:∀ (j:Nat) (_:j=Bc k (km.map (·.1))) (hj:j<(eT km).length),((eT km)[j]'hj).2=Bl (km[Bc k (km.map (·.1))].2):=by
      rintro _ rfl hj;exact congrArg Prod.snd (Aaa (fun (e:QQ×Nat)=>(e.1,Bl e.2)) (l:=km) (h:=hj))
    exact key _ (gU km k) h
  rw [e];exact kt' hp
theorem vtl {r:Res} {L:List Res} (hs:St c G (r::L) w):St c G (L++[r]) w:=Bh (swp (A:=[r]) (B:=L) (T:=[]) (Bh hs sM)) sM
theorem vt2 {r r2:Res} {L:List Res} (hs:St c G (r::r2::L) w):St c G (L++[r,r2]) w:=Bh (swp (A:=[r,r2]) (B:=L) (T:=[]) (Bh hs sM)) sM
theorem vh2 {r r2:Res} {L:List Res} (hs:St c G (L++[r,r2]) w):St c G (r::r2::L) w:=Bh (swp (A:=L) (B:=[r,r2]) (T:=[]) (Bh hs sM)) sM
theorem vhd {r:Res} {L:List Res} (hs:St c G (L++[r]) w):St c G (r::L) w:=Bh (swp (A:=L) (B:=[r]) (T:=[]) (Bh hs sM)) sM
end
theorem Qa:∀ (w:List UInt8) (n:Nt) (s to:Nat),n.read.length≤(El n s w to).read.length
  | [],n,s,to=>AaR _
  | [b],n,s,to=>by show _≤(n.read.set s _).length;rw [AaP];exact AaR _
  | b::c::w,n,s,to=>by
    refine Aai ?_ (Qa (c::w) _ _ _)
    show _≤((n.read++[[]]).set s _).length
    rw [AaP,AaB];omega
structure gV (a b:Kc):Prop where
  n:a.net.read.length≤b.net.read.length
  k:a.keys.length≤b.keys.length
theorem gV.refl (a:Kc):gV a a:=⟨AaR _,AaR _⟩
theorem gV.trans {a b c:Kc} (h:gV a b) (h2:gV b c):gV a c:=⟨Aai h.n h2.n,Aai h.k h2.k⟩
theorem sL {t:Tr} {d:Tb} {F:Kc→Nat→Nat→Option (Kc×Nat)} {p q a b:Nat} {st s1:Kc} (hn:¬ (Dv t p (UInt8.ofNat b)).to<0) (h:Me t d F p q a (some st) b=some s1) :
    ∃ s2 to,F st (Dv t p (UInt8.ofNat b)).to.toNat (Cn7.step d q b)=some (s2,to)∧s1={ s2 with net:=El s2.net a (Gt (Dv t p (UInt8.ofNat b)).out (UInt8.ofNat b)) to }:=by
  unfold Me at h
  dsimp only at h
  rw [if_neg hn] at h
  split at h
  · cases h
  · rename_i s2 to he;injection h with h;exact ⟨s2,to,he,h.symm⟩
theorem visB_up {t:Tr} {d:Tb} {F:Kc→Nat→Nat→Option (Kc×Nat)} (hF:∀ st p q s2 a,F st p q=some (s2,a)→gV st s2) {p q a b:Nat} {st s1:Kc} (h:Me t d F p q a (some st) b=some s1):gV st s1:=by
  by_cases hn:(Dv t p (UInt8.ofNat b)).to<0
  · have e:Me t d F p q a (some st) b=some st:=if_pos hn
    rw [e] at h;injection h with h;rw [h];exact gV.refl _
  · obtain ⟨s2,to,h1,h2⟩:=sL hn h
    refine (hF _ _ _ _ _ h1).trans ?_
    rw [h2];exact ⟨Qa _ _ _ _,AaR _⟩
theorem Vo {t:Tr} {d:Tb} {F:Kc→Nat→Nat→Option (Kc×Nat)} {p q a:Nat}:∀ l:List Nat,l.foldl (Me t d F p q a) none=none
  | []=>rfl
  | _::l=>Vo l
theorem Tp {t:Tr} {d:Tb} {F:Kc→Nat→Nat→Option (Kc×Nat)} (hF:∀ st p q s2 a,F st p q=some (s2,a)→gV st s2) {p q a:Nat}:∀ (l:List Nat) {st s1:Kc},l.foldl (Me t d F p q a) (some st)=some s1→gV st s1
  | [],st,s1,h=>by injection h with h;rw [h];exact gV.refl _
  | b::l,st,s1,h=>by
    rw [Aao] at h
    cases e:Me t d F p q a (some st) b with
    | none=>rw [e,Vo] at h;cases h
    | some s2=>rw [e] at h;exact (visB_up hF e).trans (Tp hF l h)
theorem lM {t:Tr} {d:Tb} {B:List Nat} {f p q at2:Nat} {st st2:Kc} (h:Ii t d B (f+1) st p q=some (st2,at2)) (hno:¬ Bc (p,q) st.keys<st.keys.length) :
    ∃ s3,B.foldl (Me t d (Ii t d B f) p q st.net.read.length) (some ⟨Eb st.net,st.keys++[(p,q)],st.ats++[st.net.read.length]⟩)=some s3∧at2=st.net.read.length∧st2=if t.final.getD p false=true∧d.acc.getD q false=true then { s3 with net:=El s3.net st.net.read.length (t.ends.getD p []) 0 } else s3:=by
  rw [Ii,if_neg hno] at h
  split at h
  · cases h
  · rename_i s3 he;injection h with h;obtain ⟨h1,h2⟩:=Prod.mk.inj h;exact ⟨s3,he,h2.symm,h1.symm⟩
theorem lN {t:Tr} {d:Tb} {B:List Nat} {f p q at2:Nat} {st st2:Kc} (h:Ii t d B (f+1) st p q=some (st2,at2)) (hyes:Bc (p,q) st.keys<st.keys.length):st2=st∧at2=st.ats.getD (Bc (p,q) st.keys) 0:=by
  rw [Ii,if_pos hyes] at h;injection h with h;obtain ⟨h1,h2⟩:=Prod.mk.inj h;exact ⟨h1.symm,h2.symm⟩
theorem fin_up {s3:Kc} {c:Prop} [Decidable c] {a:Nat} {w:List UInt8}:gV s3 (if c then { s3 with net:=El s3.net a w 0 } else s3):=by
  split
  · exact ⟨Qa _ _ _ _,AaR _⟩
  · exact gV.refl _
theorem Xz {t:Tr} {d:Tb} {B:List Nat}:∀ (f:Nat) (st:Kc) (p q:Nat) (s2:Kc) (a:Nat),Ii t d B f st p q=some (s2,a)→gV st s2
  | 0,_,_,_,_,_,h=>by cases h
  | f+1,st,p,q,s2,a,h=>by
    by_cases hin:Bc (p,q) st.keys<st.keys.length
    · rw [(lN h hin).1];exact gV.refl _
    · obtain ⟨s3,h1,_,h3⟩:=lM h hin
      have h4:=Tp (Xz f) _ h1
      have h5:gV st ⟨Eb st.net,st.keys++[(p,q)],st.ats++[st.net.read.length]⟩:=⟨by show _≤(st.net.read++[[]]).length;rw [AaB];omega,by show _≤(st.keys++[(p,q)]).length;rw [AaB];omega⟩
      rw [h3];exact (h5.trans h4).trans fin_up
theorem vL {t:Tr} {d:Tb} {B:List Nat} {f p q a k n:Nat} {s0 sk s3:Kc} (hk:k<n) (h:(List.range n).foldl (Me t d (Ii t d B f) p q a) (some s0)=some s3) (hsk:(List.range k).foldl (Me t d (Ii t d B f) p q a) (some s0)=some sk) :
    ∃ s1,Me t d (Ii t d B f) p q a (some sk) k=some s1∧(List.range (k+1)).foldl (Me t d (Ii t d B f) p q a) (some s0)=some s1∧gV s1 s3:=by
  have e:List.range n=List.range (k+1)++(List.range n).drop (k+1):=by
    have:=List.take_append_drop (k+1) (List.range n)
    rw [List.take_range,Nat.min_eq_left oM] at this;exact this.symm
  rw [e,Aap] at h
  have e2:(List.range (k+1)).foldl (Me t d (Ii t d B f) p q a) (some s0)=Me t d (Ii t d B f) p q a (some sk) k:=by rw [AbC,Aap,hsk];rfl
  rw [e2] at h ⊢
  cases e3:Me t d (Ii t d B f) p q a (some sk) k with
  | none=>rw [e3,Vo] at h;cases h
  | some s1=>rw [e3] at h;exact ⟨s1,rfl,rfl,Tp (Xz f) _ h⟩
def VisC (t:Tr) (d:Cy) (f:Nat):Prop:=∀ {G:Ah} {b9 bm b6 bn b2 b7 b10 b3 b8 c1 c2 c3 c4 cc cn ca:Nat} {A1 A2 A3 A4 Ac An Aa:Option Addr} (hB9:Cg G b9 [.map (some bm)]) (hB6:Cg G b6 [Vp bn]) (hB2:Cg G b2 [.slice A1 t.cls.length c1,.slice A2 t.moves.length c2,.slice A3 t.final.length c3,.slice A4 t.ends.length c4]) (hTm:MM G (.slice A2 t.moves.length c2) t.moves) (hTf:Dt G (.slice A3 t.final.length c3) t.final) (hTe:Es G (.slice A4 t.ends.length c4) t.ends) (hB7:Cg G b7 ((Cv t.cls).map Bx)) (hB10:Cg G b10 [.func (.func 115) #[] #[Vp b9,Vp b6,Vp b2,Vp b7,Vp b10,Vp b3,Vp b8]]) (hB3:Cg G b3 [.slice Ac d.cls.length cc,.slice An d.next.length cn,.slice Aa d.acc.length ca]) (hN:LN G (.slice An d.next.length cn) d.next) (hA:Dt G (.slice Aa d.acc.length ca) d.acc) (hB8:Cg G b8 ((Cv d.cls).map Bx)) {km:List (QQ×Nat)} {ns:List NS} {vr0 vf0:Value} {p q B at2:Nat} {st2:Kc} (hv:Ii t (Av d) (List.range 256) f (Jp km ns) p q=some (st2,at2)) (hp:p<t.moves.length) (hq:q<d.next.length) (hnd:(km.map (·.1)).Nodup) (hNs:Il B ns) (hbK:st2.keys.length≤5000) (hbN:st2.net.read.length≤40000000) (hbB:B+2570*st2.keys.length≤900000000+2570*km.length),Ba prog 115 [Vi (p:Int),Vi (q:Int),Vp b9,Vp b6,Vp b2,Vp b7,Vp b10,Vp b3,Vp b8] G (dA bm km bn vr0 vf0 ns) fun r G' H'=>r=Vi (at2:Int)∧∃ km' vr' vf' ns' B',H'=dA bm km' bn vr' vf' ns'∧st2=Jp km' ns'∧(km'.map (·.1)).Nodup∧Il B' ns'∧B'+2570*km.length≤B+2570*km'.length
theorem vis7_st {b9 bm b6 bn b2 b7 b10 b3 b8 c1 c2 c3 c4 cc cn ca:Nat} {A1 A2 A3 A4 Ac An Aa:Option Addr} {t:Tr} {d:Cy} {f:Nat} (htok:Cn7.TrOk t) (hk:Cn7.DOk d) (ih:VisC t d f) (hB9:Cg G b9 [.map (some bm)]) (hB6:Cg G b6 [Vp bn]) (hB2:Cg G b2 [.slice A1 t.cls.length c1,.slice A2 t.moves.length c2,.slice A3 t.final.length c3,.slice A4 t.ends.length c4]) (hTm:MM G (.slice A2 t.moves.length c2) t.moves) (hTf:Dt G (.slice A3 t.final.length c3) t.final) (hTe:Es G (.slice A4 t.ends.length c4) t.ends) (hB7:Cg G b7 ((Cv t.cls).map Bx)) (hB10:Cg G b10 [.func (.func 115) #[] #[Vp b9,Vp b6,Vp b2,Vp b7,Vp b10,Vp b3,Vp b8]]) (hB3:Cg G b3 [.slice Ac d.cls.length cc,.slice An d.next.length cn,.slice Aa d.acc.length ca]) (hN:LN G (.slice An d.next.length cn) d.next) (hA:Dt G (.slice Aa d.acc.length ca) d.acc) (hB8:Cg G b8 ((Cv d.cls).map Bx)) {km:List (QQ×Nat)} {ns:List NS} {vr0 vf0:Value} {p q B at2:Nat} {st2:Kc} (hv:Ii t (Av d) (List.range 256) (f+1) (Jp km ns) p q=some (st2,at2)) (hp:p<t.moves.length) (hq:q<d.next.length) (hnd:(km.map (·.1)).Nodup) (hNs:Il B ns) (hbK:st2.keys.length≤5000) (hbN:st2.net.read.length≤40000000) (hbB:B+2570*st2.keys.length≤900000000+2570*km.length) :
  Ba prog 115 [Vi (p:Int),Vi (q:Int),Vp b9,Vp b6,Vp b2,Vp b7,Vp b10,Vp b3,Vp b8] G (dA bm km bn vr0 vf0 ns) fun r G' H'=>r=Vi (at2:Int)∧∃ km' vr' vf' ns' B',H'=dA bm km' bn vr' vf' ns'∧st2=Jp km' ns'∧(km'.map (·.1)).Nodup∧Il B' ns'∧B'+2570*km.length≤B+2570*km'.length:=by
 have htab:=Cn7.tab_ok hk
 have hce0:Cv d.cls=(Av d).cell:=by rw [Xu,Xj]
 have hfl:=htok.fl
 have hel:=htok.el
 have hdal:=hk.al
 refine Ba.of_T [(0,_),(1,_),(2,_),(3,_),(4,_),(5,_),(6,_),(7,_),(8,_)] func115 rfl ntmps115 sM rfl fun w0 hs=>?_
 have hB90:=hB9
 have hB60:=hB6
 have hB20:=hB2
 have hTm0:=hTm
 have hTf0:=hTf
 have hTe0:=hTe
 have hB70:=hB7
 have hB100:=hB10
 have hB30:=hB3
 have hN0:=hN
 have hA0:=hA
 have hB80:=hB8
 refine Wt 7 [0] hs rfl<|Zy hs (Yg rfl (hB9 0 _ rfl)<|Wp 2 [] hs rfl<|Zy hs (Dr underlying97 sizeOf3 zeroValue97 rfl rfl (cs:=[_,_]) rfl<|Zy hs (Y_lkM (km:=km) (k:=(p,q)) 0 rfl underlying98 keyQ zeroValue3 hnd rfl rfl (fun hno=>?_) fun hyes=>?_)))
 ·
  obtain ⟨s3,hf3,hate,hst2⟩:=lM hv (by show ¬ _<(km.map (·.1)).length;rw [AaC];exact hno)
  have hnl0:(Jp km ns).net.read.length=ns.length:=Gm ns
  rw [hnl0] at hf3 hate hst2
  subst hate
  have hup0:=Tp (Xz f) _ hf3
  have hup3:gV s3 st2:=by rw [hst2];exact fin_up
  have hk0:km.length+1≤s3.keys.length:=by have:=hup0.k;rw [show (Jp km ns).keys=km.map (·.1) from rfl,AaB,AaC] at this;exact this
  have hn0:ns.length+1≤s3.net.read.length:=by have:=hup0.n;rw [show (Eb (Jp km ns).net).read=(Dd ns).read++[[]] from rfl,AaB,Gm] at this;exact this
  have hu3n:=hup3.n
  have hu3k:=hup3.k
  refine Wp 14 [0,0] hs rfl<|Zy hs (Yg rfl (hB6 0 _ rfl)<|O_s (Et (H1:=Ja bn vr0 vf0 ns) (H:=[_]) (vtl hs) rfl func114 rfl kR (bW oM) fun v1 G' H' _ hR hG28 hs=>?_))
  obtain ⟨rfl,bg,vr2,vf2,rfl⟩:=hR
  replace hs:=vhd hs
  refine Wp 4 [0] hs rfl ?_
  replace hB9:=hB9.mono hG28
  refine Zy hs (Yg rfl (hB9 0 _ rfl)<|Wp 2 [] hs rfl<|Zy hs (Dr underlying97 sizeOf3 zeroValue97 rfl rfl (cs:=[_,_]) rfl<|Wp 1 [] hs rfl<|O_n (fG (l:=eT km) (a:=(p,q)) hs underlying98 keyQ (by rw [gT];exact hnd) rfl rfl rfl fun _ hs=>?_)))
  replace hs:=Bh hs (show _=dA bm (km++[((p,q),ns.length)]) bn vr2 vf2 (ns++[⟨bg,[],Vn,[]⟩]) from by unfold dA;rw [show Ot (eT km) (p,q) (Vi (ns.length:Int))=eT (km++[((p,q),ns.length)]) from putM_new hno])
  refine Wp 6 [9,0,1,3,4,5,6,7,8,14,0] hs rfl ?_
  obtain ⟨Gp0,hGp⟩:=hs.name
  subst hGp
  have hB9_0:=hB9
  replace hB6:=hB6.mono hG28
  have hB6_0:=hB6
  replace hB2:=hB2.mono hG28
  have hB2_0:=hB2
  replace hTm:=hTm.mono hG28
  have hTm_0:=hTm
  replace hTf:=hTf.mono hG28
  have hTf_0:=hTf
  replace hTe:=hTe.mono hG28
  have hTe_0:=hTe
  replace hB7:=hB7.mono hG28
  have hB7_0:=hB7
  replace hB10:=hB10.mono hG28
  have hB10_0:=hB10
  replace hB3:=hB3.mono hG28
  have hB3_0:=hB3
  replace hN:=hN.mono hG28
  have hN_0:=hN
  replace hA:=hA.mono hG28
  have hA_0:=hA
  replace hB8:=hB8.mono hG28
  have hB8_0:=hB8
  refine Zl [0,1,3,4,5,6,7,8,14,34] (fun m E w=>∃ (k:Nat) (km1:List (QQ×Nat)) (ns1:List NS) (vr vf:Value) (B1:Nat) (G2:Ah),Cu Gp0 G2∧k≤256∧(List.range k).foldl (Me t (Av d) (Ii t (Av d) (List.range 256) f) p q ns.length) (some ⟨Eb (Jp km ns).net,(Jp km ns).keys++[(p,q)],(Jp km ns).ats++[ns.length]⟩)=some (Jp km1 ns1)∧(km1.map (·.1)).Nodup∧Il B1 ns1∧B1+2570*(km.length+1)≤B+2570*km1.length+10*k∧ns.length<ns1.length∧m=256-k∧E=⟨[],[(0,Vi (p:Int)),(1,Vi (q:Int)),(3,Vp b6),(4,Vp b2),(5,Vp b7),(6,Vp b10),(7,Vp b3),(8,Vp b8),(14,Vi (ns.length:Int)),(34,Vi (k:Int))]⟩∧St ⟨w0,G,Bj (dA bm km bn vr0 vf0 ns)⟩ G2 (dA bm km1 bn vr vf ns1) w) rfl (⟨0,km++[((p,q),ns.length)],ns++[⟨bg,[],Vn,[]⟩],_,_,B,_,Cu.refl _,by omega,by show some _=some _;unfold Jp;rw [bU];simp,by rw [AaU,AbQ];exact ⟨hnd,AbT.2 ⟨AbI,Aaz⟩,fun a ha b hb e=>hno (by rw [← AaC (f:=(·.1))];exact Cb.2 (by have e2:a=(p,q):=e.trans (AaE.1 hb);rw [← e2];exact ha))⟩,hNs.snoc _ _,by rw [AaB];show _≤B+2570*(km.length+1)+_;omega,by rw [AaB];exact Nat.lt_succ_self _,rfl,rfl,hs⟩) fun m E w hI=>?_
  obtain ⟨k,km1,ns1,vr,vf,B1,G2,hlg0,hk9,hfk,hnd1,hN1,hB19,hal,rfl,rfl,hs⟩:=hI
  have hB9:=hB9_0.mono hlg0
  have hB6:=hB6_0.mono hlg0
  have hB2:=hB2_0.mono hlg0
  have hTm:=hTm_0.mono hlg0
  have hTf:=hTf_0.mono hlg0
  have hTe:=hTe_0.mono hlg0
  have hB7:=hB7_0.mono hlg0
  have hB10:=hB10_0.mono hlg0
  have hB3:=hB3_0.mono hlg0
  have hN:=hN_0.mono hlg0
  have hA:=hA_0.mono hlg0
  have hB8:=hB8_0.mono hlg0
  have hB9:=hB90.mono hs.le
  have hB6:=hB60.mono hs.le
  have hB2:=hB20.mono hs.le
  have hTm:=hTm0.mono hs.le
  have hTf:=hTf0.mono hs.le
  have hTe:=hTe0.mono hs.le
  have hB7:=hB70.mono hs.le
  have hB10:=hB100.mono hs.le
  have hB3:=hB30.mono hs.le
  have hN:=hN0.mono hs.le
  have hA:=hA0.mono hs.le
  have hB8:=hB80.mono hs.le
  refine Wt 2 [] hs rfl<|Zy hs (Yc rfl (fun h35=>?_) fun h35=>?_)
  ·
   refine Wp 11 [0,0] hs rfl ?_
   obtain ⟨rr,herr⟩:∃ q9,t.moves[p]'hp=q9:=⟨_,rfl⟩
   have hlrr:=htok.row rr Z42
   obtain ⟨ci,hce⟩:∃ z,z=(Cv t.cls).getD (UInt8.ofNat k).toNat 0:=⟨_,rfl⟩
   have hci:ci<t.cls.length:=by rw [hce];exact htok.cell _
   obtain ⟨mv,hmv⟩:∃ q9,rr[ci]'oM=q9:=⟨_,rfl⟩
   have hmF:Dv t p (UInt8.ofNat k)=mv:=by unfold Dv;rw [← hce,Cn7.gD (show p<t.moves.length by omega),herr,Cn7.gD oM,hmv]
   have hmb:=htok.mv (show p<t.moves.length by omega) (UInt8.ofNat k)
   rw [hmF] at hmb
   obtain ⟨s1,hg1,hg2,hup1⟩:=vL (show k<256 by omega) hf3 hfk
   refine Wu 1 [] hs rfl<|Bg [0,1,2,3,4,5,6,7,8,9,10] hs kR ?_
   replace hs:=hs.drew
   refine Xr [0] [1] hs rfl<|Xt 1 hs rfl (Yg rfl (hB2 1 _ rfl)<|Xr [2] [] hs rfl<|Xt 3 hs rfl (Ca hTm p underlying29 sizeOf71 rfl rfl rfl oM fun p40 cc40 hp40 hc40 hR40=>?_))
   rw [herr] at hR40
   obtain ⟨u40,rfl,hrr⟩:=hR40
   obtain ⟨A40,c40,rfl⟩:=hrr.slice
   refine Xt 4 hs rfl (Yg rfl (hp40 0 _ rfl)<|Xr [5] [] hs rfl<|Xt 6 hs rfl (Bp (k) underlying80 sizeOf3 rfl rfl rfl oM<|Xt 7 hs rfl (Yg rfl (hB7 k (Bl ci) Z26)<|Xt 8 hs rfl (Ca hrr ci underlying71 sizeOf74 rfl rfl rfl oM fun p45 cc45 hp45 hc45 hR45=>?_))))
   rw [hmv] at hR45
   obtain ⟨u45,rfl,hpc⟩:=hR45
   obtain ⟨A45,c45,rfl⟩:=hpc.slice
   refine Xt 9 hs rfl (Db (vs:=[Vi mv.to,.slice A45 mv.out.length c45]) isAgg74 sizeOf74 rfl hp45 hc45 ?_)
   have hle:=hs.le
   refine Xo 10 rfl (Sa hs zeroValue74 rfl fun b16 _ hs=>Ai hs hle (gLr _) (Aax _ _)<|Xn 11 rfl (Sg hs rfl (rfl) fun _ hs=>Xe (Zk [0,1,3,4,5,6,7,8,14,15,16,34] rfl<|Wu 4 [0,0] hs rfl<|Zy hs (Yc rfl (fun h49=>?_) fun h49=>?_))))
   ·
    obtain ⟨tn,htn⟩:∃ n:Nat,mv.to=(n:Int):=⟨mv.to.toNat,(AcO h49).symm⟩
    rw [htn] at hs
    obtain ⟨z,hz⟩:∃ z,z=Cn7.step (Av d) q k:=⟨_,rfl⟩
    have hzl:z<d.next.length:=by rw [hz];exact Cn7.step_lt htab (by show q<d.next.length;exact hq) oM
    obtain ⟨s2,to2,hF,hs1e⟩:=sL (by rw [hmF];omega) hg1
    rw [hmF,htn,AbE,← hz] at hF
    rw [hmF] at hs1e
    have hk12:s1.keys=s2.keys:=by rw [hs1e]
    have hn12:s2.net.read.length≤s1.net.read.length:=by rw [hs1e];exact Qa _ _ _ _
    have hu1n:=hup1.n
    have hu1k:=hup1.k
    rw [hk12] at hu1k
    have hu2:=Xz _ _ _ _ _ _ hF
    have hu2k:km1.length≤s2.keys.length:=by have:=hu2.k;rw [show (Jp km1 ns1).keys=km1.map (·.1) from rfl,AaC] at this;exact this
    have hu2n:ns1.length≤s2.net.read.length:=by have:=hu2.n;rw [show (Jp km1 ns1).net=Dd ns1 from rfl,Gm] at this;exact this
    refine Wp 1 [0] hs rfl ?_
    obtain ⟨cj,hcj⟩:∃ z,z=(Cv d.cls).getD k 0:=⟨_,rfl⟩
    have hcjl:cj<d.cls.length:=by rw [hcj,hce0];exact htab.cellAt oM
    obtain ⟨r2,her2⟩:∃ q9,d.next[q]'hq=q9:=⟨_,rfl⟩
    have hlr2:r2.length=d.cls.length∧∀ z9∈r2,z9<d.next.length:=htab.row r2 (by rw [← her2];exact AaD _)
    have hzr:r2[cj]'oM=z:=by rw [hz];unfold Cn7.step;rw [← hce0,← hcj,Qj (t:=Av d) (show q<(Av d).next.length from hq) (by show cj<(d.next[q]'hq).length;rw [her2];omega)];show _=(d.next[q]'hq)[cj]'_;simp only [her2]
    have hsW:=hs.wk [_]
    refine Wu 1 [] hs rfl<|Bg [0,1,2,3,4,5,6,7,8,9,10,11,12,13,14,15,16,17,18,19,20] hsW kR ?_
    replace hs:=hs.drew
    replace hsW:=hsW.drew
    refine Xt 0 hsW rfl (Yg rfl (hB6 0 _ rfl)<|Xr [1,2,3,4] [1,0] hsW rfl<|Xt 5 hsW rfl (Dj underlying3 underlying5 (c:=((UInt8.ofNat k).toNat:Int)) rfl (Dx _)<|Xt 7 hsW rfl (Yg rfl (hB10 0 _ rfl)<|Xr [8,9,10] [0,0,1] hsW rfl<|Xt 11 hsW rfl (Yg rfl (hB3 1 _ rfl)<|Xr [12] [] hsW rfl<|Xt 13 hsW rfl (Ca hN q underlying35 sizeOf79 rfl rfl rfl oM fun p63 cc63 hp63 hc63 hR63=>?_)))))
    rw [her2] at hR63
    obtain ⟨u63,rfl,hr2⟩:=hR63
    obtain ⟨A63,c63,rfl,_⟩:=id hr2
    refine Xt 14 hsW rfl (Yg rfl (hp63 0 _ rfl)<|Xr [15] [] hsW rfl<|Xt 16 hsW rfl (Bp (k) underlying80 sizeOf3 rfl rfl rfl oM<|Xt 17 hsW rfl (Yg rfl (hB8 k (Bl cj) (by rw [hcj];exact eK (Ch _) oM))<|Xt 18 hsW rfl (Ct hr2 cj underlying79 sizeOf3 rfl rfl rfl oM fun p68 hp68=>?_))))
    rw [hzr] at hp68
    refine Xt 19 hsW rfl (Yg rfl (hp68) ?_)
    have hle:=hs.le
    refine Xo 6 rfl (Et (H1:=[]) (H:=_::_::Ja bn vr vf ns1) hs rfl func46 rfl kR (gC (b:=UInt8.ofNat k) hpc oM) fun v2 G' H' _ hR hG56 hs=>?_)
    obtain ⟨rfl,hw⟩:=hR
    obtain ⟨A56,c56,rfl,_⟩:=id hw
    replace hs:St _ _ (_::_::Ja bn vr vf ns1) _:=hs
    have hsW:=hs.wk [_]
    replace hB9:=hB9.mono hG56
    replace hB6:=hB6.mono hG56
    replace hB2:=hB2.mono hG56
    replace hTm:=hTm.mono hG56
    replace hTf:=hTf.mono hG56
    replace hTe:=hTe.mono hG56
    replace hB7:=hB7.mono hG56
    replace hB10:=hB10.mono hG56
    replace hB3:=hB3.mono hG56
    replace hN:=hN.mono hG56
    replace hA:=hA.mono hG56
    replace hB8:=hB8.mono hG56
    replace hlg0:=hlg0.mono hG56
    refine Ai hsW hle hG56 (lSr _) ?_
    have hle:=hs.le
    refine Xo 20 rfl (Jb (args:=[_,_]) (lb:=[Vp b9,Vp b6,Vp b2,Vp b7,Vp b10,Vp b3,Vp b8]) (H1:=dA bm km1 bn vr vf ns1) (H:=[_]) (vtl hs) rfl rfl func115 rfl kR (ih hB9 hB6 hB2 hTm hTf hTe hB7 hB10 hB3 hN hA hB8 hF oM hzl hnd1 hN1 oM oM oM) fun v3 G' H' _ hR hG70 hs=>?_)
    obtain ⟨rfl,km2,vr3,vf3,ns2,B2,rfl,hs2e,hnd2,hN2,hB29⟩:=hR
    replace hs:=vhd hs
    have hs2k:s2.keys.length=km2.length:=by rw [hs2e];exact AaC _
    have hs2n:s2.net.read.length=ns2.length:=by rw [hs2e];exact Gm _
    have hsW:=hs.wk [_]
    replace hlg0:=hlg0.mono hG70
    replace hw:=hw.mono hG70
    refine Ai hsW hle hG70 (lSr _)<|Xa 21 rfl (Et (H1:=Ja bn vr3 vf3 ns2) (H:=[_,_]) (vt2 hs) rfl func116 rfl kR (lL oM oM hw Z60 hN2 oM) fun v4 G' H' _ hR hG71 hs=>?_)
    obtain ⟨vr4,vf4,ns3,rfl,hne,hN3,hl31,hl32⟩:=hR
    replace hs:=vh2 hs
    refine Xe (Zk [0,1,3,4,5,6,7,8,14,34] rfl ?_)
    refine Zr<|Zy hs (Ya (s:=((k+1:Nat):Int)) rfl<|Wp 1 [] hs rfl ?_)
    have e9:s1=Jp km2 ns3:=by rw [hs1e,hs2e];unfold Jp;rw [hne]
    replace hlg0:=hlg0.mono hG71
    refine Zx [0,1,3,4,5,6,7,8,14,34] rfl ⟨k+1,km2,ns3,_,_,_,_,hlg0,by omega,by rw [hg2,e9],hnd2,hN3,by rw [Lt];omega,by omega,rfl,rfl,hs.drop⟩
   refine Wp 4 [0] hs rfl<|Zy hs (Ya (s:=((k+1:Nat):Int)) rfl<|Wp 1 [] hs rfl ?_)
   have e9:s1=Jp km1 ns1:=by have h9:Me t (Av d) (Ii t (Av d) (List.range 256) f) p q ns.length (some (Jp km1 ns1)) k=some (Jp km1 ns1):=if_pos (by rw [hmF];omega);rw [h9] at hg1;exact (Option.some.inj hg1).symm
   refine Zx [0,1,3,4,5,6,7,8,14,34] rfl ⟨k+1,km1,ns1,_,_,B1,_,hlg0,by omega,by rw [hg2,e9],hnd1,hN1,by omega,hal,rfl,rfl,hs.drop⟩
  refine Wp 4 [0] hs rfl ?_
  obtain rfl:k=256:=by omega
  obtain rfl:Jp km1 ns1=s3:=Option.some.inj (hfk.symm.trans hf3)
  have hs3n:(Jp km1 ns1).net.read.length=ns1.length:=Gm _
  have hs3k:(Jp km1 ns1).keys.length=km1.length:=AaC _
  obtain ⟨ff,hff⟩:∃ q9,t.final[p]'oM=q9:=⟨_,rfl⟩
  have hfp:t.final.getD p false=ff:=by rw [Cn7.gD (show p<t.final.length by omega),hff]
  obtain ⟨aa,haa⟩:∃ q9,d.acc[q]'oM=q9:=⟨_,rfl⟩
  have haq:(Av d).acc.getD q false=aa:=(Cn7.gD (show q<d.acc.length by omega)).trans haa
  obtain ⟨ee,hee⟩:∃ q9,t.ends[p]'oM=q9:=⟨_,rfl⟩
  have hep:t.ends.getD p []=ee:=by rw [Cn7.gD (show p<t.ends.length by omega),hee]
  have hen:=(htok.en p hp).1
  rw [hep] at hen hst2
  refine Wu 4 [2] hs rfl<|Zy hs (Yg rfl (hB2 2 _ rfl)<|Wp 1 [] hs rfl<|Zy hs (Ee p underlying30 sizeOf4 hTf rfl rfl rfl (Dm oM) fun p76 hp76=>?_))
  rw [hff] at hp76
  refine Zy hs (Yg rfl (hp76) ?_)
  cases ff
  ·
   refine Wp 15 [0,1,11] hs rfl<|As<|Zz results115 rfl ?_
   have e9:st2=Jp km1 ns1:=by rw [hst2,if_neg Z6]
   exact ⟨_,_,hs,rfl,km1,_,_,ns1,B1,rfl,e9,hnd1,hN1,by omega⟩
  refine Wp 2 [2] hs rfl<|Zg hs rfl (Yg rfl (hB3 2 _ rfl)<|Wp 1 [] hs rfl<|Zg hs rfl (Ee q underlying30 sizeOf4 hA rfl rfl rfl (Dm oM) fun p82 hp82=>?_))
  rw [haa] at hp82
  refine Zg hs rfl (Yg rfl (hp82) ?_)
  cases aa
  ·
   refine Wp 9 [0,1,11] hs rfl<|As<|Zz results115 rfl ?_
   have e9:st2=Jp km1 ns1:=by rw [hst2,if_neg Z6]
   exact ⟨_,_,hs,rfl,km1,_,_,ns1,B1,rfl,e9,hnd1,hN1,by omega⟩
  refine Wp 3 [0] hs rfl<|Bg [0,1,2,3,4,5,6] hs kR ?_
  replace hs:=hs.drew
  refine Xt 0 hs rfl (Yg rfl (hB6 0 _ rfl)<|Xr [1,2] [3] hs rfl<|Xt 3 hs rfl (Yg rfl (hB2 3 _ rfl)<|Xr [4] [] hs rfl<|Xt 5 hs rfl (Qp hTe p underlying31 sizeOf22 rfl rfl rfl oM fun p90 u90 hp90 hu90=>?_)))
  obtain ⟨A90,c90,rfl,_⟩:=id hu90
  rw [hee] at hu90 hp90
  refine Xt 6 hs rfl (Yg rfl (hp90)<|Xa 7 rfl (Et (H1:=Ja bn vr vf ns1) (H:=[_]) (vtl hs) rfl func116 rfl kR (lL oM oM hu90 oM hN1 oM) fun v5 G' H' _ hR hG92 hs=>?_))
  obtain ⟨vr4,vf4,ns3,rfl,hne,hN3,hl31,hl32⟩:=hR
  replace hs:=vhd hs
  refine Xe (Zk [14] rfl<|Wu 5 [0] hs rfl<|As<|Zz results115 rfl ?_)
  have e9:st2=Jp km1 ns3:=by rw [hst2,if_pos ⟨hfp,haq⟩];unfold Jp;rw [hne]
  exact ⟨_,_,hs,rfl,km1,_,_,ns3,_,rfl,e9,hnd1,hN3,by omega⟩
 refine Wp 16 [0,0,0] hs rfl<|As<|Zz results115 rfl ?_
 obtain ⟨rfl,rfl⟩:=lN hv (by show _<(km.map (·.1)).length;rw [AaC];exact hyes)
 exact ⟨_,_,hs,rfl,km,_,_,ns,B,rfl,rfl,hnd,hNs,AaR _⟩
theorem PL119:places prog 119=some [(0,1),(1,1)]:=by kernel_rfl
theorem lO {t:Tr} {d:Cy} (htok:Cn7.TrOk t) (hk:Cn7.DOk d):∀ f,VisC t d f
  | 0=>by intros;exact absurd ‹Ii _ _ _ 0 _ _ _=some _› (by simp [Ii])
  | f+1=>by intros;apply vis7_st htok hk (lO htok hk f)<;>assumption
theorem out_vis {t:Tr} {d:Cy} (ht:Cn7.TrOk t) (hd:Cn7.DOk d) (h64:d.next.length≤64):∃ st at_,Ii t (Av d) (List.range 256) 4097 ⟨Eb ⟨[],[]⟩,[],[]⟩ 0 0=some (st,at_)∧st.keys.length≤4096∧st.net.read.length≤8500000∧at_<st.net.read.length:=by
  have hmul:t.moves.length*d.next.length≤64*64:=Abg ht.n2 h64
  have hok0:Cn7.NtOk (Eb ⟨[],[]⟩):=⟨rfl,fun m hm=>by rw [AaE.1 hm];exact Aaz⟩
  have he0:∀ z c r,¬ Cn7.Edge (Eb ⟨[],[]⟩) z c r:=fun z c r he=>by
    cases c with
    | none =>
      have he':r∈([[]]:List (List Nat)).getD z []:=he
      cases z with
      | zero=>cases he'
      | succ z=>cases he'
    | some c =>
      obtain ⟨l,he',_⟩:∃ l,(c,l)∈([[]]:List (List (UInt8×List Nat))).getD z []∧r∈l:=he
      cases z with
      | zero=>cases he'
      | succ z=>cases he'
  have h0:Cn7.VI t d ⟨Eb ⟨[],[]⟩,[],[]⟩ (fun _ u=>u=[]) :=
    ⟨hok0,rfl,Aaz,(fun k hk=>by cases hk),(fun i hi=>by simp at hi),AaR _,fun w=>Iff.rfl,(fun i k hk=>by cases hk),fun z c r he=>absurd he (he0 z c r)⟩
  obtain ⟨st,at_,S,j,e,hr,hdn,hj,hat,hsz⟩:=Cn7.vis_ok (fun _=>Aae) AaO ht hd 4097 _ _ 0 0 h0 ht.n1 hd.n1 (by show _<4097+0;omega)
  have hj':j<st.keys.length:=by
    rcases AaM j st.keys.length with h4 | h4
    · exact h4
    · rw [AaL h4] at hj;cases hj
  have hatl:=(hr.vi.at_ j hj').2
  rw [hat] at hatl
  have hkl:st.keys.length≤4096:=by
    have h2:=Cn7.len_le (l:=st.keys.map fun s=>s.1*d.next.length+s.2) (n:=t.moves.length*d.next.length) (Cn7.nodup_map hr.vi.nd fun x hx y hy e=>by
      obtain ⟨a1,a2⟩:=hr.vi.kok x hx
      obtain ⟨b1,b2⟩:=hr.vi.kok y hy
      have f1:(x.1*d.next.length+x.2) / d.next.length=x.1:=by rw [AcB,AbZ oM,AbS oM,Abn]
      have f2:(y.1*d.next.length+y.2) / d.next.length=y.1:=by rw [AcB,AbZ oM,AbS oM,Abn]
      have e1:x.1=y.1:=by rw [← f1,← f2,e]
      rw [e1] at e
      exact Prod.ext e1 oM) (fun z hz=>by
      obtain ⟨s,hs,rfl⟩:=Aaf.1 hz
      obtain ⟨a1,a2⟩:=hr.vi.kok s hs
      have h1:(s.1+1)*d.next.length≤t.moves.length*d.next.length:=AbL _ a1
      rw [AcN,AcE] at h1
      omega)
    rw [AaC] at h2
    omega
  have hsz':st.net.read.length≤1+2057*st.keys.length:=hsz
  exact ⟨st,at_,e,hkl,by omega,hatl⟩
theorem outs7_ok {v w2:Value} {t:Tr} {d:Cy} (ht:Mp G v t) (hd:Hm G w2 d) (htok:Cn7.TrOk t) (hk:Cn7.DOk d) (h64:d.next.length≤64) (hT:Tab G) :
  Ba prog 58 [v,w2] G [] fun r _ H'=>∃ (bn at2:Nat) (vr vf:Value) (ns:List NS),r=.tuple #[Vp bn,Vi (at2:Int)]∧H'=Ja bn vr vf ns∧jP t (Av d)=some (Dd ns,at2)∧ns.length≤8500000∧at2<ns.length∧Il 100000000 ns:=by
 obtain ⟨v1,v2,v3,v4,rfl,hTc,hTm,hTf,hTe⟩:=ht
 obtain ⟨A1,c1,rfl⟩:=hTc.slice
 obtain ⟨A2,c2,rfl⟩:=hTm.slice
 obtain ⟨A3,c3,rfl,_⟩:=id hTf
 obtain ⟨A4,c4,rfl⟩:=Eg hTe
 obtain ⟨vc,vn,va,rfl,hC,hN,hA⟩:=hd
 obtain ⟨Ac,cc,rfl⟩:=Bi.slice hC
 obtain ⟨An,cn,rfl⟩:=Bi.slice hN
 obtain ⟨Aa,ca,rfl,_⟩:=id hA
 have hc1:t.cls.length≤256:=htok.part.k2
 have hc2:d.cls.length≤256:=hk.k2
 obtain ⟨st2,at2,hvis,hvk,hvn,hva⟩:=out_vis htok hk h64
 refine Ba.of_T [(0,_),(1,_)] func58 rfl ntmps58 sM rfl fun w0 hs=>?_
 have hTc0:=hTc
 have hTm0:=hTm
 have hTf0:=hTf
 have hTe0:=hTe
 have hC0:=hC
 have hN0:=hN
 have hA0:=hA
 have hT0:=hT
 refine Wt 2 [] hs rfl<|O_s (Sb hs rfl fun b2 _ hs=>O_s (Sb hs rfl fun b3 _ hs=>Wp 5 [0] hs rfl<|Zy hs (Ce zeroValue119 rfl PL119 rfl (cs:=[_,_]) rfl<|O_s (Sb hs rfl fun b12 _ hs=>O_s (Sa hs zeroValue109 rfl fun b6 _ hs=>O_n (Sd hs rfl rfl fun _ hs=>Wp 1 [0] hs rfl ?_))))))
 obtain ⟨_,hGbhB6,hB6,hs⟩:=hs.fixBlk (fun k _=>Gb k)
 replace hB6:Cg _ b6 _:=hB6
 have hs:=hs.f2
 obtain ⟨_,hGbhB2,hB2,hs⟩:=hs.fixBlk (fun k _=>Gb k)
 replace hB2:Cg _ b2 _:=hB2
 have hs:=hs.f1
 obtain ⟨_,hGbhB3,hB3,hs⟩:=hs.fixBlk (fun k _=>Gb k)
 replace hB3:Cg _ b3 _:=hB3
 have hs:=hs.nilRow 116 1
 have hs:=hs.nilRow 79 1
 have hs:=hs.f1.f2
 refine Wu 2 [] hs rfl ?_
 replace hB6:=hB6.mono (hGbhB2.trans hGbhB3)
 refine Zy hs (Yg rfl (hB6 0 _ rfl)<|O_s (Et (H1:=Ja b12 (Vn) (Vn) []) (H:=[]) hs rfl func114 rfl kR (bW (ns:=[]) sM) fun v1 G' H' _ hR hG14 hs=>?_))
 obtain ⟨rfl,bg,vr2,vf2,rfl⟩:=hR
 replace hs:=hs.n rfl
 refine Wp 1 [0] hs rfl ?_
 have hGz:=hGbhB6.trans (hGbhB2.trans (hGbhB3.trans hG14))
 replace hTc:=hTc.mono hGz
 replace hTm:=hTm.mono hGz
 replace hTf:=hTf.mono hGz
 replace hTe:=hTe.mono hGz
 replace hC:=hC.mono hGz
 replace hN:=hN.mono hGz
 replace hA:=hA.mono hGz
 replace hT:=hT.mono hGz
 replace hB2:=hB2.mono (hGbhB3.trans hG14)
 replace hB6:=hB6.mono hG14
 replace hB3:=hB3.mono hG14
 refine Wu 1 [] hs rfl<|fE 2 [⟨0,15,fun G v=>v=Vp b2,Ft⟩,⟨1,16,fun G v=>v=.slice A1 t.cls.length c1,Ft⟩,⟨2,17,fun G v=>v=.agg (List.map Bx (Cv t.cls)).toArray,Ft⟩,⟨3,18,fun G v=>v=Vp b3,Ft⟩,⟨4,19,fun G v=>v=.slice Ac d.cls.length cc,Ft⟩,⟨5,20,fun G v=>v=.agg (List.map Bx (Cv d.cls)).toArray,Ft⟩,⟨6,7,fun G v=>Kb G v,Jt 80 (List.map Bx (List.replicate 256 0))⟩,⟨7,8,fun G v=>Kb G v,Jt 80 (List.map Bx (List.replicate 256 0))⟩] [(2,_),(3,_),(6,_)] hs ⟨rfl,rfl,rfl,trivial⟩ rfl kR kR (Wq.mem ⟨fun _ _ _ _ h=>h,fun _ _ _ _ h=>h,fun _ _ _ _ h=>h,fun _ _ _ _ h=>h,fun _ _ _ _ h=>h,fun _ _ _ _ h=>h,fun _ _ _ _ h=>h,fun _ _ _ _ h=>h,trivial⟩) (Wq.mem ⟨?_,?_,?_,?_,?_,?_,?_,?_,trivial⟩) ?_
 ·
  refine ⟨_,rfl,rfl,rfl,fun G1 Hx L1 w1 hG1 hs hL hd=>?_⟩
  refine Ev [(2,_)] ⟨hL.1,trivial⟩<|S_y hs rfl (Fq rA.p rfl (m:=0) rfl ?_)
  exact ⟨_,gLr _,rfl,hs⟩
 ·
  refine ⟨_,rfl,rfl,rfl,fun G1 Hx L1 w1 hG1 hs hL hd=>?_⟩
  obtain ⟨u15,hv15,hR15⟩:=hd _ (AaF (i:=0) rfl) kR
  replace hR15:u15=Vp b2:=hR15
  subst hR15
  refine Ev [(15,_)] ⟨hv15,trivial⟩ ?_
  replace hB2:=hB2.mono hG1
  refine S_y hs rfl (Yd isAgg28 rfl (hB2 0 _ rfl) ?_)
  exact ⟨_,gLr _,rfl,hs⟩
 ·
  refine ⟨_,rfl,rfl,rfl,fun G1 Hx L1 w1 hG1 hs hL hd=>?_⟩
  obtain ⟨u16,hv16,hR16⟩:=hd _ (AaF (i:=1) rfl) kR
  replace hR16:u16=.slice A1 t.cls.length c1:=hR16
  subst hR16
  refine Ev [(16,_)] ⟨hv16,trivial⟩ ?_
  replace hTc:=hTc.mono hG1
  replace hT:=hT.mono hG1
  refine Et (H1:=[]) (H:=_::_::_::_::_::Hx) hs rfl func45 rfl kR (Jo hTc oM hT) fun v2 G' H' _ hR hG17 hs=>?_
  obtain ⟨rfl,rfl⟩:=hR
  replace hs:St _ _ (_::_::_::_::_::Hx) _:=hs
  exact ⟨_,hG17,rfl,hs⟩
 ·
  refine ⟨_,rfl,rfl,rfl,fun G1 Hx L1 w1 hG1 hs hL hd=>?_⟩
  refine Ev [(3,_)] ⟨hL.2.1,trivial⟩<|S_y hs rfl (Fq O37_0.p rfl (m:=0) rfl ?_)
  exact ⟨_,gLr _,rfl,hs⟩
 ·
  refine ⟨_,rfl,rfl,rfl,fun G1 Hx L1 w1 hG1 hs hL hd=>?_⟩
  obtain ⟨u18,hv18,hR18⟩:=hd _ (AaF (i:=3) rfl) kR
  replace hR18:u18=Vp b3:=hR18
  subst hR18
  refine Ev [(18,_)] ⟨hv18,trivial⟩ ?_
  replace hB3:=hB3.mono hG1
  refine S_y hs rfl (Yd isAgg28 rfl (hB3 0 _ rfl) ?_)
  exact ⟨_,gLr _,rfl,hs⟩
 ·
  refine ⟨_,rfl,rfl,rfl,fun G1 Hx L1 w1 hG1 hs hL hd=>?_⟩
  obtain ⟨u19,hv19,hR19⟩:=hd _ (AaF (i:=4) rfl) kR
  replace hR19:u19=.slice Ac d.cls.length cc:=hR19
  subst hR19
  refine Ev [(19,_)] ⟨hv19,trivial⟩ ?_
  replace hC:=hC.mono hG1
  replace hT:=hT.mono hG1
  refine Et (H1:=[]) (H:=_::_::_::_::_::Hx) hs rfl func45 rfl kR (Jo hC oM hT) fun v3 G' H' _ hR hG20 hs=>?_
  obtain ⟨rfl,rfl⟩:=hR
  replace hs:St _ _ (_::_::_::_::_::Hx) _:=hs
  exact ⟨_,hG20,rfl,hs⟩
 ·
  refine ⟨_,rfl,rfl,rfl,fun G1 Hx L1 w1 hG1 hs hL hd=>?_⟩
  refine Ev [] trivial<|Bs hs zeroValue80 (cs:=(List.map Bx (List.replicate 256 0))) rfl fun b7 _ hs=>?_
  exact ⟨_,gLr _,⟨_,rfl⟩,hs⟩
 ·
  refine ⟨_,rfl,rfl,rfl,fun G1 Hx L1 w1 hG1 hs hL hd=>?_⟩
  refine Ev [] trivial<|Bs hs zeroValue80 (cs:=(List.map Bx (List.replicate 256 0))) rfl fun b8 _ hs=>?_
  exact ⟨_,gLr _,⟨_,rfl⟩,hs⟩
 intro G2 vals L2 w2 hG2 hs hL hv
 obtain ⟨hv17,hR17⟩:=hv _ (AaF (i:=2) rfl)
 replace hv17:Em L2 17=some (vals 2):=hv17
 replace hR17:(vals 2)=.agg (List.map Bx (Cv t.cls)).toArray:=hR17
 obtain ⟨hv20,hR20⟩:=hv _ (AaF (i:=5) rfl)
 replace hv20:Em L2 20=some (vals 5):=hv20
 replace hR20:(vals 5)=.agg (List.map Bx (Cv d.cls)).toArray:=hR20
 obtain ⟨hv7,hR7⟩:=hv _ (AaF (i:=6) rfl)
 replace hv7:Em L2 7=some (vals 6):=hv7
 replace hR7:Kb G2 (vals 6):=hR7
 obtain ⟨b7,hb7⟩:=hR7
 rw [hb7] at hv7
 obtain ⟨hv8,hR8⟩:=hv _ (AaF (i:=7) rfl)
 replace hv8:Em L2 8=some (vals 7):=hv8
 replace hR8:Kb G2 (vals 7):=hR8
 obtain ⟨b8,hb8⟩:=hR8
 rw [hb8] at hv8
 simp only [Ff,Aan,List.flatMap_nil,cond_true,Ft,Jt,fD,AbA,AaX,Abc,List.singleton_append,hb7,hb8] at hs
 obtain ⟨u17,hu17⟩:∃ u,u=vals 2:=⟨_,rfl⟩
 rw [← hu17] at hv17 hR17
 clear hu17
 subst hR17
 obtain ⟨u20,hu20⟩:∃ u,u=vals 5:=⟨_,rfl⟩
 rw [← hu20] at hv20 hR20
 clear hu20
 subst hR20
 refine pS [(17,_),(20,_),(7,_),(8,_),(2,_),(3,_),(6,_)] ⟨hv17,hv20,hv7,hv8,hL.1,hL.2.1,hL.2.2.1,trivial⟩<|Xn 8 rfl (Sw hs.f5 rfl (vs:=(List.map Bx (Cv t.cls))) Z14 Z14 (Hb) fun _ hs=>Xn 9 rfl (Sw hs.f6 rfl (vs:=(List.map Bx (Cv d.cls))) Z14 Z14 (Hb) fun _ hs=>Xe (Zk [2,3,6,7,8] rfl<|Wt 2 [] hs rfl<|O_s (Fm hs fun b21 _ hs =>O_s (Sa hs zeroValue98 rfl fun b9 _ hs=>O_n (Sd hs rfl rfl fun _ hs=>Wp 3 [0] hs rfl<|O_s (Sa hs zeroValue181 rfl fun b10 _ hs=>Wp 3 [0] hs rfl<|Zy hs (He (vs:=[_,_,_,_,_,_,_]) rfl<|O_n (Sd hs rfl rfl fun _ hs=>Wp 1 [0] hs rfl ?_)))))))))
 have hs:=hs.f1
 obtain ⟨_,hGbhB9,hB9,hs⟩:=hs.fixBlk (fun k _=>Gb k)
 replace hB9:Cg _ b9 _:=hB9
 obtain ⟨_,hGbhB10,hB10,hs⟩:=hs.fixBlk (fun k _=>Gb k)
 replace hB10:Cg _ b10 _:=hB10
 have hs:=hs.f2
 obtain ⟨_,hGbhB7,hB7,hs⟩:=hs.fixBlk (fun k _=>Gb k)
 replace hB7:Cg _ b7 _:=hB7
 have hs:=hs.f1
 obtain ⟨_,hGbhB8,hB8,hs⟩:=hs.fixBlk (fun k _=>Gb k)
 replace hB8:Cg _ b8 _:=hB8
 have hs:=hs.f5.f5.f5.f5.f5.f5
 have hsW:=hs.wk []
 refine Wu 1 [] hs rfl<|Bg [0,1,2,3,4] hsW kR ?_
 replace hs:=hs.drew
 replace hsW:=hsW.drew
 replace hB6:=hB6.mono (hG2.trans (hGbhB9.trans (hGbhB10.trans (hGbhB7.trans hGbhB8))))
 refine Xt 0 hsW rfl (Yg rfl (hB6 0 _ rfl) ?_)
 replace hB10:=hB10.mono (hGbhB7.trans hGbhB8)
 refine Xt 1 hsW rfl (Yg rfl (hB10 0 _ rfl) ?_)
 have hle:=hs.le
 have hGz:=hG2.trans (hGbhB9.trans (hGbhB10.trans (hGbhB7.trans hGbhB8)))
 replace hTm:=hTm.mono hGz
 replace hTf:=hTf.mono hGz
 replace hTe:=hTe.mono hGz
 replace hN:=hN.mono hGz
 replace hA:=hA.mono hGz
 replace hB2:=hB2.mono hGz
 replace hB3:=hB3.mono hGz
 replace hB9:=hB9.mono (hGbhB10.trans (hGbhB7.trans hGbhB8))
 replace hB7:=hB7.mono hGbhB8
 refine Xo 2 rfl (Jb (args:=[_,_]) (lb:=[Vp b9,Vp b6,Vp b2,Vp b7,Vp b10,Vp b3,Vp b8]) (H1:=dA b21 [] b12 vr2 vf2 [⟨bg,[],Vn,[]⟩]) (H:=[]) hs rfl rfl func115 rfl kR (lO htok hk 4097 hB9 hB6 hB2 hTm hTf hTe hB7 hB10 hB3 hN hA hB8 (km:=[]) (ns:=[⟨bg,[],Vn,[]⟩]) (B:=0) (p:=0) (q:=0) hvis htok.n1 hk.n1 Aaz ⟨fun s h9=>(by rw [AaE.1 h9];exact Aaz),AaR _⟩ oM oM oM) fun v4 G' H' _ hR hG25 hs=>?_)
 obtain ⟨rfl,km2,vr3,vf3,ns2,B2,rfl,hs2e,hnd2,hN2,hB29⟩:=hR
 replace hs:=Bh hs (AaX _)
 have hsW:=hs.wk []
 refine Ai hsW hle hG25 (lSr _)<|Xr [3,4] [] hsW rfl<|Xe (Zk [4,5] rfl<|As ?_)
 refine By (vs:=[_,_]) results58 rfl ⟨rfl,rfl,trivial⟩ ?_
 try dsimp only [tup]
 have hkl2:st2.keys.length=km2.length:=by rw [hs2e];exact AaC _
 have hnl2:st2.net.read.length=ns2.length:=by rw [hs2e];exact Gm _
 exact ⟨_,_,hs.drop,_,at2,_,_,ns2,rfl,rfl,by unfold jP;rw [hvis,hs2e];rfl,by omega,by omega,hN2.le (by simp only [List.length_nil] at hB29;omega)⟩
def Pf (G:Ah) (bn:Nat) (vr vf:Value) (ns:List NS):Prop:=∀ r∈Ja bn vr vf ns,mY G r
theorem Pf.mono {G G':Ah} (h:G.le G') {bn:Nat} {vr vf:Value} {ns:List NS} (hg:Pf G bn vr vf ns):Pf G' bn vr vf ns:=fun r hr=>(hg r hr).mono h
theorem Pf.blk {bn:Nat} {vr vf:Value} {ns:List NS} (hg:Pf G bn vr vf ns):Cg G bn [vr,vf]:=fun i v hv=>by
  have h:G bn=some (.cells [vr,vf].toArray 119 (0,0)):=hg (.blk bn 119 [vr,vf]) (by unfold Ja Oe;simp)
  simp [Fc,h,hv]
theorem Pf.rd {bn:Nat} {vr vf:Value} {ns:List NS} (hg:Pf G bn vr vf ns):Sl G vr 1 ns.length (ns.map fun s:NS=>Value.map (some s.b)):=hg (.row 116 1 vr ns.length (ns.map fun s:NS=>Value.map (some s.b))) (by unfold Ja Oe;simp)
theorem Pf.fr {bn:Nat} {vr vf:Value} {ns:List NS} (hg:Pf G bn vr vf ns):Sl G vf 1 ns.length (ns.map fun s:NS=>s.fv):=hg (.row 79 1 vf ns.length (ns.map fun s:NS=>s.fv)) (by unfold Ja Oe;simp)
theorem Pf.st {bn:Nat} {vr vf:Value} {ns:List NS} (hg:Pf G bn vr vf ns) {s:NS} (hs:s∈ns):De G s.fv s.fl:=hg (rI s.fv s.fl) (AbF _ (Abh.2 ⟨s,hs,AaG _ (AbF _ AaK)⟩))
theorem Pf.mp {bn:Nat} {vr vf:Value} {ns:List NS} (hg:Pf G bn vr vf ns) {s:NS} (hs:s∈ns):G s.b=some (.map (esV Wc (eP s)) (eP s).length):=hg (lG s) (AbF _ (Abh.2 ⟨s,hs,AaK⟩))
theorem Pf.en {bn:Nat} {vr vf:Value} {ns:List NS} (hg:Pf G bn vr vf ns) {s:NS} (hs:s∈ns) {e:UInt8×Value×List Nat} (he:e∈s.es):De G e.2.1 e.2.2:=hg (rE e) (AbF _ (Abh.2 ⟨s,hs,AaG _ (AaY _ (Aal he))⟩))
theorem cloG_nil {n:Nt} {f:Nat} {seen L:List Nat} (h:Qv n f seen []=some L):L=seen:=by
  cases f with
  | zero=>cases h
  | succ f=>rw [Qv] at h;injection h with h;exact h.symm
theorem eU {n:Nt} {f s:Nat} {seen st:List Nat}:Qv n (f+1) seen (st++[s])=if s∈seen then Qv n f seen st else Qv n f (seen++[s]) (st++n.free.getD s []):=by
  rw [Qv,List.getLast?_append]
  simp
theorem bX {n:Nt}:∀ (f:Nat) {seen st L:List Nat},Qv n f seen st=some L→st.length<f
  | 0,_,_,_,h=>by cases h
  | f+1,seen,st,L,h=>by
    rcases List.eq_nil_or_concat st with rfl | ⟨st0,s,rfl⟩
    · exact Nat.succ_pos f
    · rw [List.concat_eq_append] at h ⊢
      rw [eU] at h
      rw [AaB,Aac]
      split at h
      · have:=bX f h;omega
      · have:=bX f h;rw [AaB] at this;omega
theorem cloF_run {n:Nt} {set L:List Nat} (h:cU n set=some L):∃ L0,Qv n (set.length+(n.free.map List.length).sum+1) [] set=some L0∧L=dT L0:=by
  unfold cU at h
  cases e:Qv n (set.length+(n.free.map List.length).sum+1) [] set with
  | none=>rw [e] at h;cases h
  | some L0=>rw [e] at h;injection h with h;exact ⟨L0,rfl,h.symm⟩
theorem free_sum {B:Nat} {ns:List NS} (h:Il B ns):((Dd ns).free.map List.length).sum≤B:=by
  refine Aai ?_ h.sm
  unfold Dd;dsimp only
  rw [AbV]
  induction ns with
  | nil=>exact AaR _
  | cons s ns ih =>
    rw [Aar,Aar,List.sum_cons,List.sum_cons]
    have:=ih ⟨fun s hs=>h.nd s (AaG _ hs),by have:=h.sm;rw [Aar,List.sum_cons] at this;omega⟩
    have h2:s.fl.length≤eQ s:=Nat.le_add_right _ _
    show s.fl.length+_≤_;omega
theorem sN {ns:List NS} {i:Nat} (h:i<ns.length):(Dd ns).free.getD i []=ns[i].fl:=by
  unfold Dd;dsimp only
  rw [Cn7.gD Z54,Aaa]
def Hc (l:List Nat):List (Nat×Value):=l.map fun s=>(s,Vt)
theorem Hk (l:List Nat):(Hc l).map (·.1)=l:=by unfold Hc;rw [AbV];exact List.map_id _
theorem vM {l:List Nat} {s:Nat} (h:s∉l):Ot (Hc l) s (Vt)=Hc (l++[s]):=by
  unfold Ot Dz
  rw [Hk,if_neg (by unfold Hc;rw [AaC];intro hp;exact h (Cb.1 hp))]
  unfold Hc;rw [AaU];rfl
theorem vN {l:List Nat} {p:Nat×Value} (h:p∈Hc l):p.1∈l:=by
  obtain ⟨s,hs,rfl⟩:=Aaf.1 h;exact hs
theorem keyN:Ih prog 3 fI:=Ih.nat underlying3
theorem sort_nat {l l2:List Nat} (hp:l.Perm l2):((l.map fun x:Nat=>(x:Int)).mergeSort fun x y=>decide (x≤y))=(dT l2).map fun x:Nat=>(x:Int):=by
  refine List.Perm.eq_of_pairwise (le:=(·≤·)) (fun a b _ _ h1 h2=>Int.le_antisymm h1 h2) ?_ ?_ ?_
  · have:=List.pairwise_mergeSort (le:=fun x y:Int=>decide (x≤y)) (fun a b c h1 h2=>by simp at *;omega) (fun a b=>by simp;omega) (l.map fun x:Nat=>(x:Int))
    exact this.imp fun h=>by simpa using h
  · exact List.Pairwise.map _ (fun a b h=>by omega) (Cn7.sortN_sorted l2)
  · exact (List.mergeSort_perm _ _).trans ((hp.trans (Cn7.sortN_perm l2).symm).map _)
section
variable {x:Cx} {Q:Exit→Env→World→Prop} {E:Env} {d:Option Tmp} {ty:TypeId} {pos:String} {aft:Array Edge} {g:Option (Nat×Bool)} {c:Ctx} {G:Ah} {H:List Res}
theorem Y_lkS {t kt et:TypeId} {m kx:Operand} {b:Nat} {l:List Nat} {s:Nat} (i:Nat) (hi:H[i]?=some (.obj b (.map (esV fI (Hc l)) (Hc l).length))) (hu:x.P.underlying t=some (.map kt et)) (hk:Ih x.P kt fI) (hz:∀ w,(zeroValue et).run x.P w=.ok (Vf) w) (hn:l.Nodup)
    (h1:ev E m=some (.map (some b))) (h2:ev E kx=some (fI s)) (kf:¬ s∈l→K (Vf)) (kt':s∈l→K (Vt)):Y x (St c G H) ⟨d,.lookup t m kx false,ty,pos,aft,g⟩ E K:=by
  have hl:(Hc l).length=l.length:=AaC _
  refine aC (l:=Hc l) (a:=s) i hi hu hk hz (by rw [Hk];exact hn) h1 h2 (fun h=>kf fun hm=>h ?_) fun h=>?_
  · unfold Dz;rw [Hk,hl];exact Cb.2 hm
  · have e:((Hc l)[Dz s (Hc l)]'h).2=Vt:=by
      obtain ⟨a,_,ha⟩:=Aaf.1 (AaD h)
      rw [← ha]
    rw [e];refine kt' (Cb.1 ?_)
    have h3:=h;unfold Dz at h3;rw [Hk,hl] at h3;exact h3
theorem oU {K:Value→World→Prop} {w:World} {t:TypeId} (hs:St c G H w) (k:∀ b w',c.w0.heap.size≤b→St c G (.obj b (.map #[] 0)::H) w'→K (.map (some b)) w'):S x ⟨d,.makeMap t none,ty,pos,aft,g⟩ Q K E w:=by
  refine Ko rfl fun a _=>⟨.map (some w.heap.size),w.alloc (.map #[] 0),?_,k _ _ hs.size (hs.alloc _ ?_ (fun k hk=>hk))⟩
  · simp only [execOp,Option.map_none,Sem.run_bind,run_makeMap_plain,Result.andThen];simp
  · show (w.alloc _).heap[w.heap.size]?=_
    rw [heap_alloc_new]
end
theorem sortn_ok {v:Value} {n:Nat} {l:List Int} (hn:n=l.length) (hl:l.length≤1000000000) :
    Ba prog 117 [v] G [.row 3 1 v n (l.map (.int .i64))] fun r _ H'=>r=.tuple #[]∧H'=[.row 3 1 v n ((l.mergeSort fun x y=>decide (x≤y)).map (.int .i64))]:=by
  subst hn
  intro w hw
  have hrow:w.ownsRow 0 3 1 v l.length (l.map (.int .i64)):=hw.hold (.row 3 1 v l.length (l.map (.int .i64))) sM
  have hlen:(l.mergeSort fun x y=>decide (x≤y)).length=l.length:=List.length_mergeSort ..
  rcases hrow.2 with ⟨rfl,h0⟩ | ⟨g,cap,cur,rfl,h0,hh,hnc,hcm,hsz,htk⟩
  · obtain rfl:=List.length_eq_zero_iff.1 h0
    exact (Tryz.slices_Sort_int_none none 0 w).mono fun e w' ⟨he,hw'⟩=>⟨_,G,_,he,by subst hw';simpa using hw,rfl,rfl⟩
  · have hg:g<w.heap.size:=Dc hh
    rw [Abf] at htk
    refine (Tryz.slices_Sort_int g 0 cap l w (holds_of_blockI hh htk) hg oM).mono fun e w' ⟨he,n,os,hw'⟩=>⟨_,G,_,he,?_,rfl,rfl⟩
    subst hw'
    have hgb:=grownBy_sortedI (w:=w) (g:=g) (n:=n) (os:=os) (l.mergeSort fun x y=>decide (x≤y)).toArray
    refine St.write hw hgb.os hgb.tape hgb.output hgb.size (fun k hk hf=>hgb.block k hk ?_) (ownsRow_sortedI hlen (Aas _) hh hnc hcm hsz) (fun k hk=>.inl hk) (hdr:=by first|exact Nat.le_add_right _ _|(simp [grow,putRow,Sort.ahead];done)|(unfold grow putRow;simp))
    intro he;exact hf he.symm
theorem bY {α:Type} [DecidableEq α]:∀ {l m:List α},l.Nodup→(∀ a∈l,a∈m)→l.length≤m.length
  | [],_,_,_=>Aas _
  | a::l,m,h,hs=>by
    have ha:=hs a AaK
    have h1:=bY (l:=l) (m:=m.erase a) (AbT.1 h).2 fun b hb=>(List.mem_erase_of_ne (by rintro rfl;exact (AbT.1 h).1 hb)).2 (hs b (AaG _ hb))
    rw [List.length_erase_of_mem ha] at h1
    have:=List.length_pos_of_mem ha
    rw [AaZ];omega
theorem sO {α:Type} {l:List α} (h:0<l.length):∃ a b,l=a++[b]:=by
  rcases List.eq_nil_or_concat l with e | ⟨a,b,e⟩
  · rw [e] at h;exact absurd h (Nat.lt_irrefl 0)
  · exact ⟨a,b,by rw [e,List.concat_eq_append]⟩
theorem esV_len {α:Type} (enc:α→Value) (l:List (α×Value)):(esV enc l).size=l.length:=by
  have h:∀ (i:Nat) (l:List (α×Value)),(Jv enc i l).length=l.length:=by
    intro i l
    induction l generalizing i with
    | nil=>rfl
    | cons p l ih=>rw [Jv,AaZ,AaZ,ih]
  show (Jv enc 0 l).toArray.size=_
  rw [List.size_toArray,h]
theorem lP {l:List Nat}:∀ y∈l.map Bl,y.oneCell'=true:=fun y hy=>by obtain ⟨n,_,rfl⟩:=Aaf.1 hy;rfl
theorem sP {bn B:Nat} {vr vf v:Value} {ns:List NS} {set L:List Nat} (hg:Pf G bn vr vf ns) (hN:Il B ns) (hB:B≤1000000000) (hns:ns.length≤100000000) (hR:Cn7.NtR (Dd ns)) (hset:∀ s∈set,s<ns.length) (hsl:set.length≤1000000000) (hL:cU (Dd ns) set=some L) :
  Ba prog 59 [Vp bn,v] G [.row 3 1 v set.length (set.map Bl)] fun r _ H'=>H'=[.row 3 1 r L.length (L.map Bl)]:=by
 have hgb:=hg.blk
 have hgf:=hg.fr
 obtain ⟨Af,cf,rfl,_⟩:=id hgf
 obtain ⟨L0,hL0,rfl⟩:=cloF_run hL
 have hfs:=free_sum hN
 refine Ba.of_T [(0,_),(1,_)] func59 rfl ntmps59 sM rfl fun w0 hs=>?_
 have hg0:=hg
 have hgb0:=hgb
 have hgf0:=hgf
 have hM0:=hs.feetLt
 refine Wt 6 [0] hs rfl<|O_s (oU hs fun b9 _ hb9 hs =>Wp 2 [0] hs rfl ?_)
 have hs:=hs.f1.f1
 obtain ⟨Gp0,hGp⟩:=hs.name
 subst hGp
 have hg_0:=hg
 have hgb_0:=hgb
 have hgf_0:=hgf
 refine Wu 1 [] hs rfl<|Zl [0,1,5] (fun m E w=>∃ (f:Nat) (seen stack:List Nat) (vs:Value) (G2:Ah),Cu Gp0 G2∧Qv (Dd ns) f seen stack=some L0∧seen.Nodup∧(∀ s∈seen,s<ns.length)∧(∀ s∈stack,s<ns.length)∧f≤3000000000∧m=f∧E=⟨[],[(0,Vp bn),(1,vs),(5,.map (some b9))]⟩∧St ⟨w0,Gp0,Bj [.row 3 1 v set.length (set.map Bl)]⟩ G2 [.obj b9 (.map (esV fI (Hc seen)) (Hc seen).length),.row 3 1 vs stack.length (stack.map Bl)] w) rfl (⟨set.length+((Dd ns).free.map List.length).sum+1,[],set,_,_,Cu.refl _,hL0,Aaz,(fun s h9=>by cases h9),hset,by omega,rfl,rfl,hs⟩) fun m E w hI=>?_
 obtain ⟨f,seen,stack,vs,G2,hlg0,hcl,hsn,hsN,hstN,hf9,rfl,rfl,hs⟩:=hI
 have hg:=hg_0.mono hlg0
 have hgb:=hgb_0.mono hlg0
 have hgf:=hgf_0.mono hlg0
 refine Wt 4 [] hs rfl<|Zy hs (Dl 1 rfl underlying79 rfl hs<|Zy hs (Yc rfl (fun h12=>?_) fun h12=>?_))
 ·
  refine Wp 3 [0] hs rfl ?_
  have hs:=hs.f1.f1
  obtain ⟨st0,s,rfl⟩:=sO (l:=stack) oM
  have hs9:s<ns.length:=hstN s sM
  have hln:=bX _ hcl
  obtain ⟨f1,rfl⟩:∃ g,m=g+1:=⟨m-1,by omega⟩
  rw [AaB,Aac] at hln
  rw [eU,sN hs9] at hcl
  replace hs:=Bh hs (show _=[.obj b9 (.map (esV fI (Hc seen)) (Hc seen).length),.row 3 1 vs (st0.length+1) (st0.map Bl++[Bl s])] from by simp)
  obtain ⟨bS,cS,hvs,hcS⟩:=hs.rowForm 1 rfl oM
  subst hvs
  have hflB:=hN.fl _ (AaD hs9)
  refine Wu 6 [] hs rfl<|Zy hs (Ll (c:=(st0.length:Int)) rfl rfl oM oM<|Zy hs (Be (st0.length) underlying79 sizeOf3 rfl rfl rfl oM<|Zy hs (Cm 1 rfl isAgg3 rfl (by rw [AaW (by rw [AaC];exact AaR _),AaC,Aaw];rfl) ?_)))
  refine Wp 7 [0] hs rfl<|Zy hs (Ll (c:=(st0.length:Int)) rfl rfl oM oM<|Zy hs (iY st0.length underlying79 sizeOf3 rfl rfl rfl oM hcS oM<|Wp 4 [0] hs rfl ?_))
  have hs:=hs.f1
  replace hs:=hs.rowTake (m:=st0.length) oM
  rw [Abf,List.take_left' (by rw [AaC])] at hs
  refine Wp 2 [] hs rfl<|Zy hs (Y_lkS (l:=seen) (s:=s) 1 rfl underlying183 keyN zeroValue4 hsn rfl rfl (fun hno=>?_) fun hyes=>?_)
  ·
   refine Wp 7 [0] hs rfl<|O_n (fG (l:=Hc seen) (a:=s) hs.f1 underlying183 keyN (by rw [Hk];exact hsn) rfl rfl rfl fun _ hs=>?_)
   rw [vM hno] at hs
   refine Wp 4 [4,0,1,5,6] hs rfl<|Zy hs (Ci rfl<|Wp 1 [1] hs rfl<|Zy hs (Yg rfl (hgb 1 _ rfl)<|Wp 1 [] hs rfl<|Zy hs (Ee s underlying35 sizeOf79 hgf rfl rfl rfl (by show (ns.map fun s:NS=>s.fv)[_]?=_;rw [Aak,AaA hs9];rfl) fun p36 hp36=>?_)))
   refine Zy hs (Yg rfl (hp36)<|O_s (Au hs.f1 underlying79 Qx rfl dC rfl rfl ((hg.st (AaD hs9))) (lP) oM oM fun v1 _ hs =>Wp 1 [] hs rfl ?_))
   have hs:=hs.f1
   rw [if_neg hno] at hcl
   refine Cr ⟨_,?_,[(0,_),(1,_),(5,_)],⟨rfl,rfl,rfl,trivial⟩,⟨f1,seen++[s],st0++ns[s].fl,_,_,hlg0,hcl,by rw [AbQ];exact ⟨hsn,AbT.2 ⟨AbI,Aaz⟩,fun a ha b hb e=>hno Z35⟩,fun a h9=>(by rcases AaS.1 h9 with h9 | h9;exact hsN a h9;rw [AaE.1 h9];exact hs9),fun a h9=>(by rcases AaS.1 h9 with h9 | h9;exact hstN a (AaY _ h9);rw [← Gm];exact (hR.rg s none a (by show a∈(Dd ns).free.getD s [];rw [sN hs9];exact h9)).1),by omega,rfl,rfl,Bh hs sM⟩⟩
   omega
  refine Wp 4 [0] hs rfl ?_
  have hs:=hs.f1
  rw [if_pos hyes] at hcl
  refine ⟨_,?_,[(0,_),(1,_),(5,_)],⟨rfl,rfl,rfl,trivial⟩,⟨f1,seen,st0,_,_,hlg0,hcl,hsn,hsN,fun s h9=>hstN s (AaY _ h9),by omega,rfl,rfl,hs⟩⟩
  omega
 refine Wp 3 [0] hs rfl ?_
 obtain rfl:stack=[]:=AbR oM
 obtain rfl:seen=L0:=(cloG_nil hcl).symm
 have hsl9:=Cn7.len_le hsn hsN
 refine Wu 3 [] hs rfl<|Zy hs (fH 0 rfl (n:=seen.length) (by rw [esV_len];exact AaC _) underlying183 rfl<|O_s (Dw (n:=0) (m:=seen.length) hs underlying79 Qx rfl rfl rfl oM oM oM fun b41 _ hs =>Wp 6 [0] hs rfl ?_))
 have hs:=hs.f1
 obtain ⟨_,hG9,hgm,hs⟩:=St.frz hs (by intro k hk hM;have h1:=hM0 k hM;have h2:k=b9∨b9=k:=(by first|exact .inl hk|exact .inr hk);rcases h2 with rfl|rfl<;>exact absurd (AcD h1 hb9) (Nat.lt_irrefl _))
 refine O_s (jA (l:=Hc seen) (enc:=fI) hs hgm underlying183 rfl fun it _ hs =>Wp 1 [0] hs rfl ?_)
 have hs:=hs.f1.f1
 replace hs:=hs.wk [_,_]
 obtain ⟨Gp1,hGp⟩:=hs.name
 subst hGp
 replace hg:=hg.mono hG9
 have hg_1:=hg
 replace hgb:=hgb.mono hG9
 have hgb_1:=hgb
 replace hgf:=hgf.mono hG9
 have hgf_1:=hgf
 have hgm_1:=hgm
 replace hlg0:=hlg0.mono hG9
 have hlg0_1:=hlg0
 refine Zl [7,43] (fun m E w=>∃ (done:List Nat) (vo:Value) (G2:Ah),Cu Gp1 G2∧done.Nodup∧(∀ s∈done,s∈seen)∧m=seen.length-done.length∧E=⟨[],[(7,vo),(43,Vp it)]⟩∧St ⟨w0,Gp0,Bj [.row 3 1 v set.length (set.map Bl)]⟩ G2 [.obj it (itV b9 (Hc seen) done),.row 3 1 vo done.length (done.map Bl)] w) rfl (⟨[],_,_,Cu.refl _,Aaz,(fun s h9=>by cases h9),rfl,rfl,hs⟩) fun m E w hI=>?_
 obtain ⟨done,vo,G2,hlg1,hdn,hds,rfl,rfl,hs⟩:=hI
 have hg:=hg_1.mono hlg1
 have hgb:=hgb_1.mono hlg1
 have hgf:=hgf_1.mono hlg1
 have hgm:=hgm_1.mono hlg1
 have hlg0:=hlg0_1.mono hlg1
 refine Wt 2 [] hs rfl<|O_s (pX hs hgm (by rw [Hk];exact hsn) (by rw [Hk];exact hds) rfl (fun hall _ hs=>?_) fun pq hpq hnew _ hs=>?_)
 ·
  refine Wp 5 [0] hs rfl<|Wu 3 [] hs rfl ?_
  have hs:=hs.f1
  have hpm:done.Perm seen:=(List.perm_ext_iff_of_nodup hdn hsn).2 fun a=>⟨hds a,fun h9=>hall (a,Vt) (Aal h9)⟩
  have hdlen:=hpm.length_eq
  replace hs:=Bh hs (show _=[.row 3 1 vo done.length ((done.map fun x:Nat=>(x:Int)).map (.int .i64)),.obj it (itV b9 (Hc seen) done)] from by simp [Bl,Function.comp_def])
  refine O_s (Sc (sortn_ok (by rw [AaC]) iA) hs rfl fun v2 G' H' _ hR hG53 hs=>?_)
  obtain ⟨rfl,rfl⟩:=hR
  replace hs:=hs.n rfl
  refine Wp 6 [0,0] hs rfl<|As<|Zz results59 rfl ?_
  have hs:=hs.wk [_]
  rw [sort_nat hpm] at hs
  exact ⟨_,_,hs,by rw [AbV,hdlen,(Cn7.sortN_perm seen).length_eq];rfl⟩
 refine Wp 8 [0] hs rfl<|Zy hs (jB 0 rfl hgm (by rw [Hk];exact hsn) hpq rfl<|Wp 6 [0] hs rfl<|O_s (Cq hs hM0 underlying79 sizeOf3 zeroValue3 rfl rfl dC dC rfl (cs:=[_]) rfl rfl fun v3 _ _ hG50 hl50 hs=>?_))
 have hdl3:=bY hdn hds
 refine O_s (Au hs.f1 underlying79 Qx rfl dC rfl rfl (hl50) (Cp rfl) oM oM fun v4 _ hs =>Wp 1 [] hs rfl ?_)
 have hs:=hs.f1
 have hdl2:(done++[pq.1]).length=done.length+1:=by simp
 have hdn2:(done++[pq.1]).Nodup:=by rw [AbQ];exact ⟨hdn,AbT.2 ⟨AbI,Aaz⟩,fun a ha b hb e=>hnew Z35⟩
 have hds2:∀ a∈done++[pq.1],a∈seen:=fun a h9=>(by rcases AaS.1 h9 with h9 | h9;exact hds a h9;rw [AaE.1 h9];exact vN hpq)
 have hdl3:=bY hdn2 hds2
 replace hlg1:=hlg1.mono hG50
 refine Cr ⟨_,?_,[(7,_),(43,_)],⟨rfl,rfl,trivial⟩,⟨done++[pq.1],_,_,hlg1,hdn2,hds2,rfl,rfl,Bh hs (by simp [Bl,fI])⟩⟩
 omega
theorem shr_16 (x:Nat):((x:Int)).fdiv (2 ^ (min (16:Int).toNat IntKind.i64.bits))=((x / 65536:Nat):Int):=by
  show ((x:Int)).fdiv 65536=_
  rw [Int.fdiv_eq_ediv_of_nonneg _ dC];omega
def nm3 (s:Nat):List UInt8:=[UInt8.ofNat s,UInt8.ofNat (s / 256),UInt8.ofNat (s / 65536)]
def Er (S:List Nat):List UInt8:=S.flatMap nm3
theorem eV:∀ S:List Nat,(Er S).length=3*S.length
  | []=>rfl
  | s::S=>by
    show (nm3 s++Er S).length=_
    rw [AaB,eV S,AaZ];show 3+_=_;omega
theorem nm3_inj {a b:Nat} (ha:a<16777216) (hb:b<16777216) (h:nm3 a=nm3 b):a=b:=by
  unfold nm3 at h
  injection h with h1 h;injection h with h2 h;injection h with h3 _
  have e1:=congrArg UInt8.toNat h1
  have e2:=congrArg UInt8.toNat h2
  have e3:=congrArg UInt8.toNat h3
  simp only [Aav] at e1 e2 e3
  omega
theorem Vq:∀ {S T:List Nat},(∀ s∈S,s<16777216)→(∀ s∈T,s<16777216)→Er S=Er T→S=T
  | [],[],_,_,_=>rfl
  | [],_::_,_,_,h=>by cases h
  | _::_,[],_,_,h=>by cases h
  | a::S,b::T,hS,hT,h=>by
    have h':nm3 a++Er S=nm3 b++Er T:=h
    obtain ⟨h1,h2⟩:=List.append_inj h' rfl
    rw [nm3_inj (hS a AaK) (hT b AaK) h1,Vq (fun s hs=>hS s (AaG _ hs)) (fun s hs=>hT s (AaG _ hs)) h2]
theorem oV {S:List Nat} {k x:Nat} (h:k<S.length) (hx:x=S[k]):Er (S.take (k+1))=Er (S.take k)++nm3 x:=by
  subst hx;unfold Er
  rw [Aay,AaA h,Abl];simp
theorem Qb {T:List Nat} (hT:∀ s∈T,s<16777216):∀ {l:List (List Nat)},(∀ S∈l,∀ s∈S,s<16777216)→Bc (Er T) (l.map Er)=Bc T l
  | [],_=>rfl
  | S::l,hl=>by
    rw [Aar]
    show (if Er S=Er T then 0 else Bc (Er T) (l.map Er)+1)=if S=T then 0 else Bc T l+1
    have h1:=Qb hT (l:=l) fun S hS=>hl S (AaG _ hS)
    by_cases e:S=T
    · rw [if_pos e,if_pos (by rw [e])]
    · rw [if_neg e,if_neg fun h=>e (Vq (hl S AaK) hT h),h1]
def ixF (x:Nat) (S:List Nat):Int:=if x∈S then (Bc x S:Int) else -1
theorem sQ {x:Nat} {S:List Nat}:0≤ixF x S↔x∈S:=by
  unfold ixF;split
  · rename_i h;exact ⟨fun _=>h,fun _=>by omega⟩
  · rename_i h;exact ⟨fun h2=>absurd h2 dC,fun h2=>absurd h2 h⟩
theorem ix_at {x:Nat}:∀ {S:List Nat} {k:Nat} (h:k<S.length),x∉S.take k→x=S[k]→Bc x S=k
  | y::S,0,h,_,e=>by show (if y=x then 0 else _)=0;rw [if_pos (show y=x from e.symm)]
  | y::S,k+1,h,hn,e=>by
    rw [List.take_succ_cons] at hn
    show (if y=x then 0 else Bc x S+1)=k+1
    rw [if_neg fun h9=>hn (by rw [h9];exact AaK),ix_at (Nat.lt_of_succ_lt_succ h) (fun h9=>hn (AaG _ h9)) e]
theorem gW {v:Value} {S:List Nat} (hS:De G v S) (hl:S.length≤1000000000) :
  Ba prog 60 [v] G [] fun r _ H'=>H'=[]∧r=(Ji (Er S)):=by
 obtain ⟨A,cap,rfl,_⟩:=id hS
 refine Ba.of_T [(0,_)] func60 rfl ntmps60 sM rfl fun w0 hs=>?_
 have hS0:=hS
 have hM0:=hs.feetLt
 refine Wt 15 [0,0,0] hs rfl ?_
 have hs:=hs.nilRow 5 1
 obtain ⟨Gp0,hGp⟩:=hs.name
 subst hGp
 have hS_0:=hS
 refine Zl [3,6,7,8] (fun m E w=>∃ (k:Nat) (v3:Value) (G2:Ah),Cu Gp0 G2∧k≤S.length∧m=S.length-k∧E=⟨[],[(3,v3),(6,(.slice A S.length cap)),(7,Vi ((S.length:Nat):Int)),(8,Vi (k:Int))]⟩∧St ⟨w0,Gp0,Bj []⟩ G2 [.row 5 1 v3 (3*k) ((Er (S.take k)).map Dy)] w) rfl (⟨0,_,_,Cu.refl _,Aas _,rfl,rfl,hs⟩) fun m E w hI=>?_
 obtain ⟨k,v3,G2,hlg0,hk9,rfl,rfl,hs⟩:=hI
 have hS:=hS_0.mono hlg0
 refine Wt 2 [] hs rfl<|Zy hs (Yc rfl (fun h9=>?_) fun h9=>?_)
 ·
  refine Wp 8 [0] hs rfl<|Zy hs (Ct hS k underlying79 sizeOf3 rfl rfl rfl oM fun p10 hp10=>?_)
  obtain ⟨x,hx⟩:∃ z,z=S[k]'oM:=⟨_,rfl⟩
  rw [← hx] at hp10
  refine Zy hs (Yg rfl (hp10)<|Wp 5 [0] hs rfl<|Zy hs (Dj underlying3 underlying5 (c:=((UInt8.ofNat x).toNat:Int)) rfl (Dx _)<|Wp 1 [] hs rfl<|Zy hs (Mh (c:=((x / 256:Nat):Int)) rfl rfl dC (eC _)<|Zy hs (Dj underlying3 underlying5 (c:=((UInt8.ofNat (x / 256)).toNat:Int)) rfl (Dx _)<|Wp 1 [] hs rfl<|Zy hs (Mh (c:=((x / 65536:Nat):Int)) rfl rfl dC (shr_16 _)<|Zy hs (Dj underlying3 underlying5 (c:=((UInt8.ofNat (x / 65536)).toNat:Int)) rfl (Dx _)<|O_s (Cq hs hM0 underlying22 sizeOf5 zeroValue5 rfl rfl dC dC rfl (cs:=[_,_,_]) rfl rfl fun v1 _ _ hG21 hl21 hs =>O_s (Au hs underlying22 cK rfl dC rfl rfl (hl21) (fun y hy=>by simp only [AaV,AbI,or_false] at hy;rcases hy with rfl | rfl | rfl<;>rfl) oM oM fun v2 _ hs =>Wp 3 [0] hs rfl<|Zy hs (Ya (s:=((k+1:Nat):Int)) rfl<|Wp 1 [] hs rfl ?_)))))))))
  replace hlg0:=hlg0.mono hG21
  refine Zx [3,6,7,8] rfl ⟨k+1,_,_,hlg0,by omega,rfl,rfl,Bh hs (by rw [oV oM hx,AaU,show 3*(k+1)=3*k+3 by omega];rfl)⟩
 refine Wp 4 [0] hs rfl ?_
 obtain rfl:S.length=k:=by omega
 rw [Aaj] at hs
 obtain ⟨_,hG_hnv,hnv,hs⟩:=hs.fixRow noM
 have hky:Bd _ v3 (Er S):=Bd.ofSl hnv (eV S).symm rfl
 refine Wu 3 [] hs rfl<|Zy hs (Kq (bs:=Er S) underlying22 underlying5 underlying9 rfl hky<|Wp 2 [0] hs rfl<|As<|Zz results60 rfl ?_)
 exact hs.q rfl
theorem idx7_ok {v:Value} {S:List Nat} {x:Nat} (hS:De G v S) (hl:S.length≤1000000000) :
  Ba prog 118 [v,Vi (x:Int)] G [] fun r _ H'=>H'=[]∧r=Vi (ixF x S):=by
 obtain ⟨A,cap,rfl,_⟩:=id hS
 refine Ba.of_T [(0,_),(1,_)] func118 rfl ntmps118 sM rfl fun w0 hs=>?_
 have hS0:=hS
 refine Wt 11 [0,0] hs rfl ?_
 obtain ⟨Gp0,hGp⟩:=hs.name
 subst hGp
 have hS_0:=hS
 refine Zl [0,1,7,8] (fun m E w=>∃ (k:Nat) (G2:Ah),Cu Gp0 G2∧k≤S.length∧x∉S.take k∧m=S.length-k∧E=⟨[],[(0,(.slice A S.length cap)),(1,Vi (x:Int)),(7,Vi ((S.length:Nat):Int)),(8,Vi (k:Int))]⟩∧St ⟨w0,Gp0,Bj []⟩ G2 [] w) rfl (⟨0,_,Cu.refl _,Aas _,by simp,rfl,rfl,hs⟩) fun m E w hI=>?_
 obtain ⟨k,G2,hlg0,hk9,hno,rfl,rfl,hs⟩:=hI
 have hS:=hS_0.mono hlg0
 refine Wt 2 [] hs rfl<|Zy hs (Yc rfl (fun h9=>?_) fun h9=>?_)
 ·
  refine Wp 16 [0,0] hs rfl<|Zy hs (Ct hS k underlying79 sizeOf3 rfl rfl rfl oM fun p14 hp14=>?_)
  obtain ⟨y,hy⟩:∃ z,z=S[k]'oM:=⟨_,rfl⟩
  rw [← hy] at hp14
  refine Zy hs (Yg rfl (hp14)<|Zy hs (Yc rfl (fun h16=>?_) fun h16=>?_))
  ·
   refine Wp 7 [0,0] hs rfl<|As<|Zz results118 rfl ?_
   exact hs.q (by unfold ixF;rw [if_pos (by have h8:x=y:=oM;rw [h8,hy];exact AaD _),ix_at oM hno (by have h8:x=y:=oM;rw [h8,hy])])
  refine Wp 4 [0] hs rfl<|Zy hs (Ya (s:=((k+1:Nat):Int)) rfl<|Wp 1 [] hs rfl<|Zx [0,1,7,8] rfl ⟨k+1,_,hlg0,by omega,by rw [Aay,AaA (show k<S.length by omega)];intro h9;rcases AaS.1 h9 with h9 | h9;exact hno h9;have h8:x=S[k]'oM:=AaE.1 h9;exact h16 (by rw [h8,← hy]),rfl,rfl,hs⟩)
 refine Wp 4 [0] hs rfl<|Wu 4 [0] hs rfl<|As<|Zz results118 rfl ?_
 exact hs.q (by unfold ixF;rw [if_neg (by rw [Aab oM] at hno;exact hno)])
theorem con7_ok {v:Value} {S:List Nat} {x:Nat} (hS:De G v S) (hl:S.length≤1000000000) :
  Ba prog 61 [v,Vi (x:Int)] G [] fun r _ H'=>H'=[]∧r=.bool (decide (x∈S)):=by
 refine Ba.of_T [(0,_),(1,_)] func61 rfl ntmps61 sM rfl fun w0 hs=>?_
 have hS0:=hS
 refine Wt 8 [0] hs rfl<|O_s (Sp (idx7_ok hS hl) hs rfl fun v1 G' _ hR hG7 hs=>?_)
 obtain rfl:=hR
 refine Zy hs (Yc rfl (fun h8=>?_) fun h8=>?_)
 ·
  refine Wp 2 [0] hs rfl<|As<|Zz results61 rfl ?_
  exact hs.q (congrArg Value.bool (decide_eq_true (sQ.1 h8)).symm)
 refine Wp 2 [0] hs rfl<|As<|Zz results61 rfl ?_
 exact hs.q (congrArg Value.bool (decide_eq_false fun h9=>h8 (sQ.2 h9)).symm)
theorem canc7_ok {v:Value} {d D:Cy} (hd:Hm G v d) (hk:Cn7.DOk d) (h64:d.next.length≤64) (hD:Eu (Av d)=some D) (hT:Tab G) :
  Ba prog 57 [v] G [] fun r G' H'=>H'=[]∧∃ vd,r=.tuple #[vd,Vi 0]∧Hm G' vd D:=by
 obtain ⟨vc,vn,va,rfl,hC,hN,hA⟩:=hd
 obtain ⟨Ac,cc,rfl⟩:=Bi.slice hC
 obtain ⟨An,cn,rfl⟩:=Bi.slice hN
 obtain ⟨Aa,ca,rfl,_⟩:=id hA
 have htok:=Cn7.tab_ok hk
 obtain ⟨X,hXe⟩:∃ X,X=Av d:=⟨_,rfl⟩
 have hX5:X.next.length≤5000:=by rw [hXe];show d.next.length≤5000;omega
 rw [← hXe] at htok hD
 refine Ba.of_T [(0,_)] func57 rfl ntmps57 sM rfl fun w0 hs=>?_
 have hC0:=hC
 have hN0:=hN
 have hA0:=hA
 have hT0:=hT
 refine Wt 2 [] hs rfl<|O_s (Sb hs rfl fun b1 _ hs=>O_s (Sa hs zeroValue37 rfl fun b2 _ hs=>Wp 6 [0,1] hs rfl<|O_s (Sp (Oz ⟨_,_,_,rfl,hC,hN,hA⟩ hk h64) hs rfl fun v1 G' _ hR hG5 hs=>?_)))
 obtain rfl:=hR
 refine Wp 7 [0,1] hs rfl ?_
 replace hC:=hC.mono hG5
 replace hN:=hN.mono hG5
 replace hA:=hA.mono hG5
 replace hT:=hT.mono hG5
 refine O_s (Sp (Le ⟨_,_,_,rfl,hC,hN,hA⟩ hk.k2 hT) hs rfl fun v2 G' _ h9 hG9 hs=>?_)
 rw [← hXe] at h9
 obtain ⟨u9,w9,rfl,hc9,hn9,ha9⟩:=h9
 obtain ⟨N9,n9,rfl⟩:=Bi.slice hn9
 obtain ⟨A9,a9,rfl,_⟩:=id ha9
 refine O_s (Sp (canon_ok ⟨_,_,rfl,hc9,hn9,ha9⟩ (htok.tb hX5) hD) hs rfl fun v3 G' _ hz hG10 hs=>?_)
 obtain ⟨zc,zn,za,rfl,hzC,hzN,hzA⟩:=hz
 obtain ⟨Cz,cz,rfl⟩:=Bi.slice hzC
 obtain ⟨Nz,nz,rfl⟩:=Bi.slice hzN
 obtain ⟨Az,az,rfl,_⟩:=id hzA
 refine O_n (Sg hs rfl (rfl) fun _ hs=>Wp 2 [0] hs rfl<|As ?_)
 have hr:=hs
 refine By (vs:=[_,_]) results57 rfl ⟨Bq 0 hr isAgg37 sizeOf37 rfl (cs:=[_,_,_]) rfl rfl,rfl,trivial⟩ ?_
 try dsimp only [tup]
 exact hs.q ⟨_,rfl,_,_,_,rfl,hzC,hzN,hzA⟩
theorem vO {t:Tr} {d:Cy} (ht:Cn7.TrOk t) (hd:Cn7.DOk d) (h64:d.next.length≤64):∃ c n at_ S0 RS,Eu (Av d)=some c∧Cn7.DOk c∧c.next.length≤64∧jP t (Av c)=some (n,at_)∧Cn7.NtR n∧at_<n.read.length∧Cn7.SOk n S0∧cU n [at_]=some S0∧Qw n (List.range 256) 5000 0 [S0] []=some RS ∧
    (RS=none→cV t d=some none)∧∀ l rows,RS=some (l,rows)→Cn7.AOk rows (l.map Nj)∧rows.length≤5000∧cV t d=Cn7.minF rows (l.map Nj):=by
  obtain ⟨c,hc,hcan,hcn,hcl⟩:=Cn7.canon_ok (Cn7.tab_ok hd)
  have hcn':c.next.length≤d.next.length:=hcn
  obtain ⟨n,at_,ho,hok,hnl,hat,hrg,hpath⟩:=Cn7.out_ok ht hcan.ok oM
  have hn:Cn7.NtR n:=⟨hok,hrg⟩
  obtain ⟨S0,hS0,s1,s2,s3⟩:=Cn7.clo_ok hn (set:=[at_]) fun s hs=>by rw [AaE.1 hs];exact hat
  have hS0k:Cn7.SOk n S0:=⟨s1,s2,fun s hs r hr=>by
    obtain ⟨a,ha,hf⟩:=(s3 s).1 hs
    exact (s3 r).2 ⟨a,ha,hf.trans hr⟩⟩
  rcases Cn7.img_run hn (B:=List.range 256) 5000 0 (Cn7.ei_start hS0k) sM oM with e | ⟨l,rows,e,E,hl⟩
  · refine ⟨c,n,at_,S0,none,hc,hcan.ok,by omega,ho,hn,hat,hS0k,hS0,e,fun _=>?_,(fun l rows h=>by cases h)⟩
    unfold cV;rw [hc];dsimp only;rw [ho];dsimp only;rw [hS0];dsimp only;rw [e]
  · refine ⟨c,n,at_,S0,some (l,rows),hc,hcan.ok,by omega,ho,hn,hat,hS0k,hS0,e,(fun h=>by cases h),fun l' rows' h=>?_⟩
    obtain ⟨rfl,rfl⟩:=Prod.mk.inj (Option.some.inj h)
    refine ⟨Cn7.ei_rows E oM Nj,by have:=E.rl;omega,?_⟩
    unfold cV;rw [hc];dsimp only;rw [ho];dsimp only;rw [hS0];dsimp only;rw [e]
theorem lQ {n:Nt} {B:List Nat} {f i:Nat} {l rows:List (List Nat)} {R:Option (List (List Nat)×List (List Nat))} (h:Qw n B f i l rows=some R):0<f:=by
  cases f with
  | zero=>cases h
  | succ f=>omega
theorem imgG_end {n:Nt} {B:List Nat} {f i:Nat} {l rows:List (List Nat)} {R:Option (List (List Nat)×List (List Nat))} (hi:¬ i<l.length) (h:Qw n B (f+1) i l rows=some R):R=some (l,rows):=by
  rw [Qw,AaL oM] at h;injection h with h;exact h.symm
theorem imgG_go {n:Nt} {B:List Nat} {f i:Nat} {l rows:List (List Nat)} {R:Option (List (List Nat)×List (List Nat))} (hi:i<l.length) (h:Qw n B (f+1) i l rows=some R) :
    (4096<(B.foldl (fun st b=>Cn7.exS (fS n l[i] b) st) (l,[])).1.length→R=none)∧(¬ 4096<(B.foldl (fun st b=>Cn7.exS (fS n l[i] b) st) (l,[])).1.length→Qw n B f (i+1) (B.foldl (fun st b=>Cn7.exS (fS n l[i] b) st) (l,[])).1 (rows++[(B.foldl (fun st b=>Cn7.exS (fS n l[i] b) st) (l,[])).2])=some R):=by
  rw [Qw,AaA hi] at h
  dsimp only at h
  split at h
  · rename_i h9;exact ⟨fun _=>(Option.some.inj h).symm,fun h8=>absurd h9 h8⟩
  · rename_i h9;exact ⟨fun h8=>absurd h8 h9,fun _=>h⟩
theorem sR {w:Nat→Nat}:∀ {S M:List Nat},S.Nodup→(∀ s∈S,s∈M)→(S.map w).sum≤(M.map w).sum
  | [],_,_,_=>Aas _
  | a::S,M,h,hs=>by
    have ha:=hs a AaK
    have h1:=sR (w:=w) (S:=S) (M:=M.erase a) (AbT.1 h).2 fun b hb=>(List.mem_erase_of_ne (by rintro rfl;exact (AbT.1 h).1 hb)).2 (hs b (AaG _ hb))
    have h2:=((List.perm_cons_erase ha).map w).sum_nat
    rw [Aar,List.sum_cons] at h2 ⊢
    omega
theorem look_sum {m:List (UInt8×List Nat)} {b:UInt8}:(La m b).length≤(m.map fun e=>e.2.length).sum:=by
  unfold La
  split
  · exact Aas _
  · rename_i e he
    exact Xy (Aal (f:=fun e:UInt8×List Nat=>e.2.length) (List.mem_of_find?_eq_some he))
theorem tg_len {ns:List NS} {B:Nat} (h:Il B ns) {S:List Nat} (hS:S.Nodup) (hl:∀ s∈S,s<ns.length) (b:UInt8):(jQ (Dd ns) S b).length≤B:=by
  have h1:=sR (w:=fun s=>eQ (ns.getD s ⟨0,[],Vn,[]⟩)) (M:=List.range ns.length) hS fun s hs=>Aae.2 (hl s hs)
  have h2:(List.range ns.length).map (fun s=>eQ (ns.getD s ⟨0,[],Vn,[]⟩))=ns.map eQ:=by
    apply Abb
    · simp
    · intro i h3 h4
      rw [Aaa,Aaa,Abs,Cn7.gD (by simpa using h4)]
  rw [h2] at h1
  refine Aai ?_ (Aai h1 h.sm)
  unfold jQ
  rw [List.length_flatMap]
  clear h1 h2
  have key:∀ S:List Nat,(∀ s∈S,s<ns.length)→(S.map fun s=>(La ((Dd ns).read.getD s []) b).length).sum≤(S.map fun s=>eQ (ns.getD s ⟨0,[],Vn,[]⟩)).sum:=by
    intro S hl
    induction S with
    | nil=>exact AaR _
    | cons s S ih =>
      rw [Aar,Aar,List.sum_cons,List.sum_cons]
      refine Nat.add_le_add ?_ (ih fun s hs=>hl s (AaG _ hs))
      have hs:=hl s AaK
      refine Aai look_sum ?_
      unfold Dd;dsimp only
      rw [Cn7.gD (by rw [AaC];exact hs),Cn7.gD hs,Aaa,AbV]
      exact Nat.le_add_left _ _
  exact key S hl
theorem look_in {m:List (UInt8×List Nat)} (hn:(m.map (·.1)).Nodup) {e:UInt8×List Nat} (he:e∈m):La m e.1=e.2:=by
  unfold La
  cases hf:m.find? (fun x=>decide (x.1=e.1)) with
  | none=>have:=List.find?_eq_none.1 hf _ he;simp at this
  | some x =>
    have h1:=List.find?_some hf
    have h2:=List.mem_of_find?_eq_some hf
    rw [decide_eq_true_eq] at h1
    obtain ⟨i,hi,hie⟩:=AaQ.1 h2
    obtain ⟨j,hj,hje⟩:=AaQ.1 he
    have hij:i=j:=by
      refine (List.getElem_inj (h₀:=by rw [AaC];exact hi) (h₁:=by rw [AaC];exact hj) hn).1 ?_
      rw [Aaa,Aaa,hie,hje,h1]
    subst hij;dsimp only;rw [← hie,hje]
theorem vP {m:List (UInt8×List Nat)} {b:UInt8} (h:b∉m.map (·.1)):La m b=[]:=by
  unfold La
  rw [List.find?_eq_none.2 fun e he=>by simp only [decide_eq_true_eq];rintro rfl;exact h (Aal he)]
def TgA (T:List (UInt8×Value×List Nat)) (f:UInt8→List Nat):Prop:=T.length=256∧∀ (b:Nat) (h:b<T.length),T[b].2.2=f (UInt8.ofNat b)
theorem TgA.set {T:List (UInt8×Value×List Nat)} {f g:UInt8→List Nat} (h:TgA T f) {b:UInt8} {x:UInt8} {v:Value} {l:List Nat} (hb:l=g b) (ho:∀ c,c≠b→f c=g c):TgA (T.set b.toNat (x,v,l)) g:=by
  refine ⟨by rw [AaP];exact h.1,fun c hc=>?_⟩
  have hc':c<T.length:=by rw [AaP] at hc;exact hc
  rw [List.getElem_set]
  split
  · rename_i e;rw [← e,Cn7.o8];exact hb
  · rename_i e
    rw [h.2 c hc']
    refine ho _ fun h9=>e ?_
    rw [← h9,Aav]
    have:=h.1;omega
theorem lR {n:Nt} {S:List Nat} {k s:Nat} {b:UInt8} (h:k<S.length) (hs:s=S[k]):jQ n (S.take (k+1)) b=jQ n (S.take k) b++La (n.read.getD s []) b:=by
  subst hs;unfold jQ
  rw [Aay,AaA h,Abl];simp
theorem sS {c:Ctx} {H:List Res} {w:World} (hs:St c G H w):∀ n:Nat,St c G (H++((List.replicate n ((0,Vn,[]):UInt8×Value×List Nat)).map rE++[])) w
  | 0=>Bh hs sM
  | n+1=>by
    have h1:=(sS hs n).nilRow 3 1
    refine h1.perm ?_
    rw [AbY,Aar]
    exact List.perm_middle.symm
theorem tk_front {c:Ctx} {w:World} {A:List Res} {T:List (UInt8×Value×List Nat)} {k:Nat} (hk:k<T.length) (hs:St c G (A++((T.drop k).map rE++[])) w):St c G (rI T[k].2.1 T[k].2.2::(A++((T.drop (k+1)).map rE++[]))) w:=by
  rw [Aaq hk,Aar] at hs
  exact hs.perm List.perm_middle
theorem lr_at:∀ {vs:List Value} {l:List (List Nat)} (_:Dg G vs l) {i:Nat} (h:i<l.length),∃ A c,vs[i]?=some (.slice A l[i].length c)∧De G (.slice A l[i].length c) l[i]
  | [],l,hr,i,h=>by
    cases l with
    | nil=>exact absurd h (Nat.not_lt_zero _)
    | cons r l=>exact hr.elim
  | v::vs,r::l,hr,0,h=>by obtain ⟨A,c,rfl,h2⟩:=hr.1;exact ⟨A,c,rfl,hr.1⟩
  | v::vs,r::l,hr,i+1,h=>lr_at hr.2 (i:=i) (Nat.lt_of_succ_lt_succ h)
theorem imgS_eq (S:List Nat):Nj S=decide (0∈S):=by unfold Nj;simp
theorem oW {S:List Nat} (h:Cn7.Inc S):S.Nodup:=h.imp fun h=>Nat.ne_of_lt h
theorem oX {c:Ctx} {w:World} {A T:List Res} {es:List (UInt8×Value×List Nat)} {j:Nat} (h:j<es.length) {x:UInt8} {v:Value} {l:List Nat} {n:Nat} {xs:List Value} (hn:n=l.length) (hx:xs=l.map Bl) (hs:St c G (.row 3 1 v n xs::(A++((es.eraseIdx j).map rE++T))) w):St c G (A++((es.set j (x,v,l)).map rE++T)) w:=by
  subst hn hx;exact eS (A:=A) h (e:=(x,v,l)) hs
theorem oY {l:List (List Nat)} (hl:l.Nodup) (hb:∀ S∈l,∀ s∈S,s<16777216):(l.map Er).Nodup:=by
  unfold List.Nodup;rw [List.pairwise_map]
  exact List.Pairwise.imp_of_mem (fun {a b} ha hb9 hne e=>hne (Vq (hb a ha) (hb b hb9) e)) hl
theorem tg_next {T2:List (UInt8×Value×List Nat)} {n:Nt} {S:List Nat} {k s:Nat} {done:List UInt8} (hk:k<S.length) (hs:s=S[k]) (h:TgA T2 (fun b=>jQ n (S.take k) b++if b∈done then La (n.read.getD s []) b else [])) (hall:∀ b,b∉done→La (n.read.getD s []) b=[]):TgA T2 (jQ n (S.take (k+1))):=by
  refine ⟨h.1,fun b hb=>?_⟩
  rw [h.2 b hb,lR hk hs]
  dsimp only
  split
  · rfl
  · rename_i h8;rw [hall _ h8]
theorem tg_all {n:Nt} (hn:Cn7.NtR n) {S:List Nat} (hS:Cn7.SOk n S) {b:UInt8}:∀ s∈jQ n S b,s<n.read.length:=fun s h=>by
  obtain ⟨a,ha,he⟩:=(Cn7.tg_mem hn hS.lt).1 h
  exact (hn.rg _ _ _ he).1
theorem rd_at {ns:List NS} {s:Nat} (h:s<ns.length):(Dd ns).read.getD s []=ns[s].es.map fun e=>(e.1,e.2.2):=by
  unfold Dd;dsimp only
  rw [Cn7.gD Z54,Aaa]
theorem sT {v w2:Value} {t:Tr} {d:Cy} (ht:Mp G v t) (hd:Hm G w2 d) (htok:Cn7.TrOk t) (hk:Cn7.DOk d) (h64:d.next.length≤64) (hT:Tab G) :
  Ba prog 21 [v,w2] G [] fun r G' H'=>H'=[]∧∃ R,cV t d=some R∧DE G' r R:=by
 obtain ⟨v1,v2,v3,v4,rfl,hTc,hTm,hTf,hTe⟩:=ht
 obtain ⟨A1,c1,rfl⟩:=hTc.slice
 obtain ⟨A2,c2,rfl⟩:=hTm.slice
 obtain ⟨A3,c3,rfl,_⟩:=id hTf
 obtain ⟨A4,c4,rfl⟩:=Eg hTe
 obtain ⟨vc,vn,va,rfl,hC,hN,hA⟩:=hd
 obtain ⟨Ac,cc,rfl⟩:=Bi.slice hC
 obtain ⟨An,cn,rfl⟩:=Bi.slice hN
 obtain ⟨Aa,ca,rfl,_⟩:=id hA
 obtain ⟨D,n0,at0,S0,RS,hD,hDk,hD64,hoP,hnP,hatP,hSP,hS0P,himP,hRN,hRS⟩:=vO htok hk h64
 refine Ba.of_T [(0,_),(1,_)] func21 rfl ntmps21 sM rfl fun w0 hs=>?_
 have hTc0:=hTc
 have hTm0:=hTm
 have hTf0:=hTf
 have hTe0:=hTe
 have hC0:=hC
 have hN0:=hN
 have hA0:=hA
 have hT0:=hT
 have hM0:=hs.feetLt
 refine Wt 2 [] hs rfl<|O_s (Sb hs rfl fun b2 _ hs=>O_s (Sb hs rfl fun b3 _ hs=>O_s (Sa hs zeroValue37 rfl fun b4 _ hs=>Wp 6 [0,2] hs rfl<|O_s (Sp (Pb ⟨_,_,_,_,rfl,hTc,hTm,hTf,hTe⟩ htok) hs rfl fun v1 G' _ hR hG26 hs=>?_))))
 obtain rfl:=hR
 refine Wp 3 [1] hs rfl ?_
 replace hC:=hC.mono hG26
 replace hN:=hN.mono hG26
 replace hA:=hA.mono hG26
 refine Dh 28 rfl rfl (Sp (Oz ⟨_,_,_,rfl,hC,hN,hA⟩ hk h64) hs rfl fun v2 G' _ hR hG30 hs=>?_)
 obtain rfl:=hR
 refine Wp 8 [0,1] hs rfl ?_
 replace hT:=hT.mono (hG26.trans hG30)
 replace hC:=hC.mono hG30
 replace hN:=hN.mono hG30
 replace hA:=hA.mono hG30
 refine O_s (Sp (canc7_ok ⟨_,_,_,rfl,hC,hN,hA⟩ hk h64 hD hT) hs rfl fun v3 G' _ hR hG36 hs=>?_)
 obtain ⟨vdz,rfl,hz⟩:=hR
 obtain ⟨zc,zn,za,rfl,hzC,hzN,hzA⟩:=hz
 obtain ⟨Cz,cz,rfl⟩:=Bi.slice hzC
 obtain ⟨Nz,nz,rfl⟩:=Bi.slice hzN
 obtain ⟨Az,az,rfl,_⟩:=id hzA
 refine Wp 3 [] hs rfl<|O_s (Sa hs zeroValue37 rfl fun b6 _ hs=>O_n (Sg hs rfl (rfl) fun _ hs=>Wp 6 [4,2,4,6,7] hs rfl<|Zy hs (Mz rfl rfl rfl oM<|Wp 7 [0,3,0] hs rfl ?_)))
 have hGz:=hG26.trans (hG30.trans hG36)
 replace hTc:=hTc.mono hGz
 replace hTm:=hTm.mono hGz
 replace hTf:=hTf.mono hGz
 replace hTe:=hTe.mono hGz
 replace hT:=hT.mono hG36
 refine O_s (Et (H1:=[]) (H:=_) hs rfl func58 rfl kR (outs7_ok ⟨_,_,_,_,rfl,hTc,hTm,hTf,hTe⟩ ⟨_,_,_,rfl,hzC,hzN,hzA⟩ htok hDk hD64 hT) fun v4 G' H' _ hR hG46 hs=>?_)
 obtain ⟨bn,at2,vr,vf,ns,rfl,rfl,hout,hnl,hatl,hNs⟩:=hR
 have hsN:=St.frzAll _ hs (fun _ _ k _=>Gb k)
 clear hs
 obtain ⟨_,hGn,hg,hs⟩:=hsN
 replace hg:Pf _ bn vr vf ns:=hg
 have hgb:=hg.blk
 have hgr:=hg.rd
 obtain ⟨Ar,cr,rfl,_⟩:=id hgr
 obtain ⟨hne,rfl⟩:=Prod.mk.inj (Option.some.inj (hout.symm.trans hoP))
 subst hne
 have hnl9:(Dd ns).read.length=ns.length:=Gm ns
 refine Wp 10 [0] hs rfl<|O_s (Se hs zeroValue3 rfl fun v5 _ hs _=>O_s (Sc (sP (set:=[at2]) hg hNs oM oM hnP (fun s h9=>by rw [AaE.1 h9];exact hatl) sM hS0P) hs rfl fun v6 G' H' _ hR hG52 hs=>?_))
 obtain rfl:=hR
 replace hs:=hs.n rfl
 refine Wp 2 [0] hs rfl ?_
 have hsN:=hs.fixRow noM
 clear hs
 obtain ⟨_,hG_hS0v,hS0v,hs⟩:=hsN
 replace hS0v:De _ _ S0:=hS0v
 obtain ⟨As0,cs0,rfl,_⟩:=id hS0v
 have hS0l:S0.length≤ns.length:=Cn7.len_le (oW hSP.inc) fun s h9=>by rw [← hnl9];exact hSP.lt s h9
 have hS0b:∀ s∈S0,s<16777216:=fun s h9=>by have:=hSP.lt s h9;omega
 refine Wu 2 [] hs rfl<|O_s (Fm hs fun b53 _ hs =>Wp 1 [] hs rfl<|O_s (Sp (gW hS0v oM) hs rfl fun v7 G' _ hR hG55 hs=>?_))
 obtain rfl:=hR
 refine O_n (fC (ks:=([]:List (List UInt8))) (a:=Er S0) (enc:=Ji) hs underlying114 aW Aaz (by simp [Bc]) rfl rfl rfl fun _ hs =>Wp 6 [0] hs rfl<|O_s (Se hs zeroValue79 rfl fun v8 _ hs _=>Wp 4 [4,4,8,11,12] hs rfl<|Zy hs (Ce zeroValue103 rfl PL103 rfl (cs:=[_,_]) rfl<|O_s (Sb hs rfl fun b60 _ hs=>Wp 7 [0,0] hs rfl ?_))))
 have hs:=hs.nilRow 4 1
 have hs:=hs.nilRow 80 256
 have hs:=hs.f6.f2.f2.f3.f4.f5
 replace hs:=hs.wk [_,_,_,_,_,_]
 obtain ⟨Gp0,hGp⟩:=hs.name
 subst hGp
 replace hT:=hT.mono (hG46.trans (hGn.trans (hG52.trans (hG_hS0v.trans hG55))))
 have hT_0:=hT
 replace hg:=hg.mono (hG52.trans (hG_hS0v.trans hG55))
 have hg_0:=hg
 replace hgb:=hgb.mono (hG52.trans (hG_hS0v.trans hG55))
 have hgb_0:=hgb
 replace hgr:=hgr.mono (hG52.trans (hG_hS0v.trans hG55))
 have hgr_0:=hgr
 replace hS0v:=hS0v.mono hG55
 refine Zl [4,8,11,12,13,14] (fun m E w=>∃ (f i:Nat) (l rows:List (List Nat)) (vs:List Value) (v12 vn va:Value) (G2:Ah),Cu Gp0 G2∧Qw (Dd ns) (List.range 256) f i l rows=some RS∧l.Nodup∧(∀ S∈l,Cn7.SOk (Dd ns) S)∧i≤l.length∧rows.length=i∧(∀ r∈rows,r.length=256)∧l.length≤4096∧Dg G2 vs l∧m=f∧E=⟨[],[(4,Vp b4),(8,Vp bn),(11,.map (some b53)),(12,v12),(13,Vp b60),(14,Vi (i:Int))]⟩∧St ⟨w0,G,Bj []⟩ G2 [.obj b53 (.map (En Ji (l.map Er)).toArray (l.map Er).length),.row 79 1 (v12) l.length vs,.blk b60 103 [vn,va],.row 80 256 (vn) rows.length (uX rows),.row 4 1 (va) ((l.take i).map Nj).length (((l.take i).map Nj).map Da),.blk b4 37 [Vn,Vn,Vn]] w) rfl (⟨5000,0,[S0],[],[.slice As0 S0.length cs0],_,_,_,_,Cu.refl _,himP,AbT.2 ⟨AbI,Aaz⟩,(fun S h9=>by rw [AaE.1 h9];exact hSP),by simp,rfl,(fun r h9=>by cases h9),by simp,(show Dg _ [_] [S0] from ⟨hS0v,trivial⟩),rfl,rfl,hs⟩) fun m E w hI=>?_
 obtain ⟨f,i,l,rows,vs,v12,vn,va,G2,hlg0,him,hlnd,hlok,hil9,hrl9,hr256,hl40,hrs,rfl,rfl,hs⟩:=hI
 have hT:=hT_0.mono hlg0
 have hg:=hg_0.mono hlg0
 have hgb:=hgb_0.mono hlg0
 have hgr:=hgr_0.mono hlg0
 refine Wt 5 [] hs rfl<|Zy hs (Dl 1 rfl underlying35 rfl hs<|Zy hs (Yc rfl (fun h64=>?_) fun h64=>?_))
 ·
  refine Wp 3 [0] hs rfl ?_
  have hfp:=lQ him
  obtain ⟨f1,rfl⟩:∃ g,m=g+1:=⟨m-1,by omega⟩
  have hil:i<l.length:=by omega
  obtain ⟨hgoN,hgoS⟩:=imgG_go hil him
  obtain ⟨S,hSe⟩:∃ S,S=l[i]:=⟨_,rfl⟩
  rw [← hSe] at hgoN hgoS
  have hSk:Cn7.SOk (Dd ns) S:=hlok S (by rw [hSe];exact AaD _)
  have hSn:=oW hSk.inc
  have hSN:∀ s∈S,s<ns.length:=fun s h9=>by rw [← hnl9];exact hSk.lt s h9
  have hSl:=Cn7.len_le hSn hSN
  obtain ⟨AS,cS,hvi,hSv⟩:=lr_at hrs hil
  rw [← hSe] at hvi hSv
  obtain ⟨bl,capl,hzbl,_⟩:=hs.rowForm 1 rfl oM
  subst hzbl
  refine Wu 4 [] hs rfl<|O_s (Bs hs zeroValue115 (cs:=(List.replicate 256 (Vn))) rfl fun b15 _ hs =>Wp 6 [0] hs rfl<|Zy hs (Be (i) underlying35 sizeOf79 rfl rfl rfl oM<|Zy hs (Cm 2 rfl isAgg79 rfl (hvi)<|Wp 3 [0] hs rfl ?_)))
  have hs:=hs.f6.f6.f6.f6.f6.f6.f6
  replace hs:=hs.wk [_,_,_,_,_,_,_]
  have hs:=sS hs 256
  obtain ⟨Gp1,hGp⟩:=hs.name
  subst hGp
  have hT_1:=hT
  have hg_1:=hg
  have hgb_1:=hgb
  have hgr_1:=hgr
  have hSv_1:=hSv
  have hrs_1:=hrs
  have hlg0_1:=hlg0
  refine Zl [4,8,11,12,13,14,15,70,71,72] (fun m E w=>∃ (k:Nat) (T:List (UInt8×Value×List Nat)) (G2:Ah),Cu Gp1 G2∧k≤S.length∧TgA T (jQ (Dd ns) (S.take k))∧m=S.length-k∧E=⟨[],[(4,Vp b4),(8,Vp bn),(11,.map (some b53)),(12,Vs bl l.length capl),(13,Vp b60),(14,Vi (i:Int)),(15,Vp b15),(70,.slice AS S.length cS),(71,Vi ((S.length:Nat):Int)),(72,Vi (k:Int))]⟩∧St ⟨w0,G,Bj []⟩ G2 (.blk b15 115 (T.map fun e=>e.2.1)::.obj b53 (.map (En Ji (l.map Er)).toArray (l.map Er).length)::.row 79 1 (Vs bl l.length capl) l.length vs::.blk b60 103 [vn,va]::.row 80 256 (vn) rows.length (uX rows)::.row 4 1 (va) ((l.take i).map Nj).length (((l.take i).map Nj).map Da)::.blk b4 37 [Vn,Vn,Vn]::(T.map rE++[])) w) rfl (⟨0,List.replicate 256 (0,Vn,[]),_,Cu.refl _,Aas _,⟨AaJ,fun b h=>by rw [AcM];rfl⟩,rfl,rfl,Bh hs (by simp only [Abk];rfl)⟩) fun m E w hI=>?_
  obtain ⟨k,T,G2,hlg1,hk9,hTg,rfl,rfl,hs⟩:=hI
  have hT:=hT_1.mono hlg1
  have hg:=hg_1.mono hlg1
  have hgb:=hgb_1.mono hlg1
  have hgr:=hgr_1.mono hlg1
  have hSv:=hSv_1.mono hlg1
  have hrs:=hrs_1.mono hlg1
  have hlg0:=hlg0_1.mono hlg1
  refine Wt 2 [] hs rfl<|Zy hs (Yc rfl (fun h73=>?_) fun h73=>?_)
  ·
   refine Wp 4 [0] hs rfl ?_
   have hkS:k<S.length:=by omega
   refine Wu 4 [] hs rfl<|Zy hs (Ct hSv k underlying79 sizeOf3 rfl rfl rfl oM fun p74 hp74=>?_)
   obtain ⟨s,hsS⟩:∃ z,z=S[k]'hkS:=⟨_,rfl⟩
   rw [← hsS] at hp74
   have hs9:s<ns.length:=hSN s (by rw [hsS];exact AaD _)
   obtain ⟨sq,hsq⟩:∃ z,z=ns[s]'hs9:=⟨_,rfl⟩
   have hsqm:sq∈ns:=by rw [hsq];exact AaD _
   have hnds:=hNs.nd sq hsqm
   refine Zy hs (Yg rfl (hp74)<|Wp 5 [0] hs rfl<|Zy hs (Ci rfl<|Wp 1 [0] hs rfl<|Zy hs (Yg rfl (hgb 0 _ rfl)<|Wp 1 [] hs rfl<|Zy hs (Ee s underlying117 sizeOf116 hgr rfl rfl rfl (by show (ns.map fun s:NS=>Value.map (some s.b))[_]?=_;rw [Aak,AaA hs9,← hsq];rfl) fun p81 hp81=>?_))))
   refine Zy hs (Yg rfl (hp81) ?_)
   have hgm:mY _ (lG sq):=hg.mp hsqm
   refine O_s (jA (l:=eP sq) (enc:=Wc) hs hgm underlying116 rfl fun it _ hs =>Wp 1 [0] hs rfl ?_)
   have hs:=hs.f7.f7.f7.f7.f7.f7.f7.f7
   obtain ⟨Gp2,hGp⟩:=hs.name
   subst hGp
   have hT_2:=hT
   have hg_2:=hg
   have hgb_2:=hgb
   have hgr_2:=hgr
   have hSv_2:=hSv
   have hrs_2:=hrs
   have hgm_2:=hgm
   have hlg0_2:=hlg0
   have hlg1_2:=hlg1
   refine Zl [4,8,11,12,13,14,15,70,71,72,83] (fun m E w=>∃ (done:List UInt8) (T2:List (UInt8×Value×List Nat)) (G2:Ah),Cu Gp2 G2∧done.Nodup∧(∀ b∈done,b∈sq.es.map (·.1))∧TgA T2 (fun b=>jQ (Dd ns) (S.take k) b++if b∈done then La ((Dd ns).read.getD s []) b else [])∧m=sq.es.length-done.length∧E=⟨[],[(4,Vp b4),(8,Vp bn),(11,.map (some b53)),(12,Vs bl l.length capl),(13,Vp b60),(14,Vi (i:Int)),(15,Vp b15),(70,.slice AS S.length cS),(71,Vi ((S.length:Nat):Int)),(72,Vi (k:Int)),(83,Vp it)]⟩∧St ⟨w0,G,Bj []⟩ G2 (.obj it (itV sq.b (eP sq) done)::.blk b15 115 (T2.map fun e=>e.2.1)::.obj b53 (.map (En Ji (l.map Er)).toArray (l.map Er).length)::.row 79 1 (Vs bl l.length capl) l.length vs::.blk b60 103 [vn,va]::.row 80 256 (vn) rows.length (uX rows)::.row 4 1 (va) ((l.take i).map Nj).length (((l.take i).map Nj).map Da)::.blk b4 37 [Vn,Vn,Vn]::(T2.map rE++[])) w) rfl (⟨[],T,_,Cu.refl _,Aaz,(fun b h9=>by cases h9),by simpa using hTg,rfl,rfl,hs⟩) fun m E w hI=>?_
   obtain ⟨done,T2,G2,hlg2,hdn,hds,hTg2,rfl,rfl,hs⟩:=hI
   have hT:=hT_2.mono hlg2
   have hg:=hg_2.mono hlg2
   have hgb:=hgb_2.mono hlg2
   have hgr:=hgr_2.mono hlg2
   have hSv:=hSv_2.mono hlg2
   have hrs:=hrs_2.mono hlg2
   have hgm:=hgm_2.mono hlg2
   have hlg0:=hlg0_2.mono hlg2
   have hlg1:=hlg1_2.mono hlg2
   refine Wt 2 [] hs rfl<|O_s (pX hs hgm (by rw [Nq];exact hnds) (by rw [Nq];exact hds) rfl (fun hall _ hs=>?_) fun pq hpq hnew _ hs=>?_)
   ·
    refine Wp 5 [0] hs rfl ?_
    refine Zr<|Zy hs (Ya (s:=((k+1:Nat):Int)) rfl<|Wp 1 [] hs rfl ?_)
    have hs:=hs.f7.f7.f7.f7.f7.f7.f7.f7
    have hTn:=tg_next hkS hsS hTg2 fun b h8=>vP (by rw [rd_at hs9,← hsq,AbV];intro h7;obtain ⟨e,he,h6⟩:=Aaf.1 h7;exact h8 (by rw [← h6];exact hall (e.1,e.2.1) (Aal he)))
    refine Cr ⟨_,?_,[(4,_),(8,_),(11,_),(12,_),(13,_),(14,_),(15,_),(70,_),(71,_),(72,_)],⟨rfl,rfl,rfl,rfl,rfl,rfl,rfl,rfl,rfl,rfl,trivial⟩,⟨k+1,T2,_,hlg1,by omega,hTn,rfl,rfl,hs.drop⟩⟩
    omega
   obtain ⟨e,he,rfl⟩:=Aaf.1 hpq
   dsimp only at hnew hs
   have hjT:e.1.toNat<T2.length:=by rw [hTg2.1];exact e.1.toNat_lt
   obtain ⟨tj,htj⟩:∃ z,z=T2[e.1.toNat]'hjT:=⟨_,rfl⟩
   have htj2:tj.2.2=jQ (Dd ns) (S.take k) e.1:=by have h9:=hTg2.2 _ hjT;rw [← htj] at h9;dsimp only at h9;rw [Cn7.o8,if_neg hnew,AaX] at h9;exact h9
   have hle2:La ((Dd ns).read.getD s []) e.1=e.2.2:=by rw [rd_at hs9,← hsq];exact look_in (e:=(e.1,e.2.2)) (by rw [AbV];exact hnds) (Aal he)
   have htl:tj.2.2.length+e.2.2.length≤100000000:=by have h9:=tg_len hNs (S:=S.take (k+1)) ((List.take_sublist _ _).nodup hSn) (fun s h8=>hSN s (List.mem_of_mem_take h8)) e.1;rw [lR hkS hsS,AaB,hle2,← htj2] at h9;exact h9
   refine Wp 8 [0] hs rfl<|Zy hs (jB 0 rfl hgm (by rw [Nq];exact hnds) hpq rfl<|Wp 8 [0] hs rfl<|Zy hs (Bp (e.1.toNat) underlying115 sizeOf79 rfl rfl rfl (by exact e.1.toNat_lt)<|Zy hs (Ej 1 isAgg79 rfl rfl (by rw [Aak,AaA hjT,← htj];rfl) ?_)))
   refine Wp 1 [] hs rfl ?_
   have hs:=lH (A:=[_,_,_,_,_,_,_,_]) hjT hs
   rw [← htj] at hs
   replace hs:St _ _ (_::_::_::_::_::_::_::_::_::((T2.eraseIdx e.1.toNat).map rE++[])) _:=hs
   refine O_s (Au hs underlying79 Qx rfl dC rfl rfl ((hg.en hsqm he)) (lP) oM oM fun v9 _ hs =>Zy hs (Bp (e.1.toNat) underlying115 sizeOf79 rfl rfl rfl (by exact e.1.toNat_lt)<|O_n (Gc hs.f2 sizeOf79 rfl rfl (hs.f2.rowOne 1 rfl) (by rw [AaC];exact hjT) (cs':=((T2.set e.1.toNat (0,v9,tj.2.2++e.2.2)).map fun e=>e.2.1)) (by rw [Aad]) fun _ hs=>?_)))
   have hs:=hs.f8.f8.f8.f8.f8.f8.f6.f8.f8
   have hdl2:(done++[e.1]).length=done.length+1:=by simp
   have hdn2:(done++[e.1]).Nodup:=by rw [AbQ];exact ⟨hdn,AbT.2 ⟨AbI,Aaz⟩,fun a ha b hb e9=>hnew (by rw [AaE.1 hb] at e9;exact e9▸ha)⟩
   have hds2:∀ a∈done++[e.1],a∈sq.es.map (·.1):=fun a h9=>(by rcases AaS.1 h9 with h9 | h9;exact hds a h9;rw [AaE.1 h9];exact Aal he)
   have hdl3:=bY hdn2 hds2
   rw [AaC] at hdl3
   have hs:=oX (A:=[_,_,_,_,_,_,_,_]) hjT (x:=0) (l:=tj.2.2++e.2.2) (by rw [AaB]) (by rw [AaU]) hs
   refine Cr ⟨_,?_,[(4,_),(8,_),(11,_),(12,_),(13,_),(14,_),(15,_),(70,_),(71,_),(72,_),(83,_)],⟨rfl,rfl,rfl,rfl,rfl,rfl,rfl,rfl,rfl,rfl,rfl,trivial⟩,⟨done++[e.1],T2.set e.1.toNat (0,v9,tj.2.2++e.2.2),_,hlg2,hdn2,hds2,hTg2.set (by rw [if_pos (AbF _ AaK),htj2,hle2]) (fun c hc=>by simp only [AaS,AaE,hc,or_false]),rfl,rfl,hs⟩⟩
   omega
  refine Wp 4 [0] hs rfl ?_
  obtain rfl:S.length=k:=by omega
  have hTgS:=hTg
  rw [Aaj] at hTgS
  refine Wu 2 [] hs rfl<|O_s (Bs hs zeroValue80 (cs:=(List.map Bx (List.replicate 256 0))) rfl fun b20 _ hs =>Wp 6 [0,0] hs rfl ?_)
  have hs:=hs.f7.f7.f7.f7.f7.f7.f7.f7
  obtain ⟨Gp3,hGp⟩:=hs.name
  subst hGp
  have hT_3:=hT
  have hg_3:=hg
  have hgb_3:=hgb
  have hgr_3:=hgr
  have hSv_3:=hSv
  have hlg0_3:=hlg0
  have hlg1_3:=hlg1
  refine Zl [4,8,11,12,13,14,15,20,97] (fun m E w=>∃ (q:Nat) (l2:List (List Nat)) (r:List Nat) (vs2:List Value) (v122:Value) (G2:Ah),Cu Gp3 G2∧q≤256∧(l2,r)=(List.range q).foldl (fun st b=>Cn7.exS (fS (Dd ns) S b) st) (l,[])∧Dg G2 vs2 l2∧l2.length≤l.length+q∧m=256-q∧E=⟨[],[(4,Vp b4),(8,Vp bn),(11,.map (some b53)),(12,v122),(13,Vp b60),(14,Vi (i:Int)),(15,Vp b15),(20,Vp b20),(97,Vi (q:Int))]⟩∧St ⟨w0,G,Bj []⟩ G2 (.blk b20 80 (List.map Bx (r++List.replicate (256-q) 0))::.blk b15 115 (T.map fun e=>e.2.1)::.obj b53 (.map (En Ji (l2.map Er)).toArray (l2.map Er).length)::.row 79 1 (v122) l2.length vs2::.blk b60 103 [vn,va]::.row 80 256 (vn) rows.length (uX rows)::.row 4 1 (va) ((l.take i).map Nj).length (((l.take i).map Nj).map Da)::.blk b4 37 [Vn,Vn,Vn]::((T.drop q).map rE++[])) w) rfl (⟨0,l,[],_,_,_,Cu.refl _,by omega,rfl,hrs,by omega,rfl,rfl,hs⟩) fun m E w hI=>?_
  obtain ⟨q,l2,r,vs2,v122,G2,hlg3,hq9,hfo,hrs2,hl2l,rfl,rfl,hs⟩:=hI
  have hT:=hT_3.mono hlg3
  have hg:=hg_3.mono hlg3
  have hgb:=hgb_3.mono hlg3
  have hgr:=hgr_3.mono hlg3
  have hSv:=hSv_3.mono hlg3
  have hlg0:=hlg0_3.mono hlg3
  have hlg1:=hlg1_3.mono hlg3
  obtain ⟨hl2n,hlok2,hrl,mx,hl2⟩:=gH (fun b=>(Cn7.nx_ok hnP hSk b).1) hlnd hlok _ hfo
  have hl2b:∀ S∈l2,∀ s∈S,s<16777216:=fun S h9 s h8=>by have:=(hlok2 S h9).lt s h8;omega
  have hnd:=oY hl2n hl2b
  refine Wt 2 [] hs rfl<|Zy hs (Yc rfl (fun h98=>?_) fun h98=>?_)
  ·
   refine Wp 4 [0] hs rfl ?_
   obtain ⟨to,hto⟩:∃ z,z=fS (Dd ns) S q:=⟨_,rfl⟩
   have htok2:Cn7.SOk (Dd ns) to:=by rw [hto];exact (Cn7.nx_ok hnP hSk q).1
   have htob:∀ s∈to,s<16777216:=fun s h9=>by have:=htok2.lt s h9;omega
   have htol:to.length≤ns.length:=Cn7.len_le (oW htok2.inc) fun s h9=>by rw [← hnl9];exact htok2.lt s h9
   have hqT:q<T.length:=by rw [hTgS.1];omega
   obtain ⟨tq,htq⟩:∃ z,z=T[q]'hqT:=⟨_,rfl⟩
   have htq2:tq.2.2=jQ (Dd ns) S (UInt8.ofNat q):=by rw [htq];exact hTgS.2 q hqT
   have hLq:cU (Dd ns) tq.2.2=some to:=by rw [htq2,hto];exact (Cn7.nx_ok hnP hSk q).2.1
   have htqs:∀ s∈tq.2.2,s<ns.length:=by rw [htq2,← hnl9];exact tg_all hnP hSk
   have htql:tq.2.2.length≤100000000:=by rw [htq2];exact tg_len hNs hSn hSN _
   refine Wu 11 [0] hs rfl<|Zy hs (Bp (q) underlying115 sizeOf79 rfl rfl rfl oM<|Zy hs (Ej 1 isAgg79 rfl rfl (by rw [Aak,AaA hqT,← htq];rfl) ?_))
   have hs:=tk_front (A:=[_,_,_,_,_,_,_,_]) hqT hs
   rw [← htq] at hs
   replace hs:St _ _ (_::_::_::_::_::_::_::_::_::((T.drop (q+1)).map rE++[])) _:=hs
   refine O_s (Et (H1:=[_]) (H:=_::_::_::_::_::_::_::_::((T.drop (q+1)).map rE++[])) hs rfl func59 rfl kR (sP hg hNs oM oM hnP htqs oM hLq) fun v10 G' H' _ hR hG104 hs=>?_)
   obtain rfl:=hR
   replace hs:St _ _ (_::_::_::_::_::_::_::_::_::((T.drop (q+1)).map rE++[])) _:=hs
   refine Wp 2 [0] hs rfl ?_
   have hsN:=hs.fixRow noM
   clear hs
   obtain ⟨_,hG_htoS,htoS,hs⟩:=hsN
   replace htoS:De _ _ to:=htoS
   obtain ⟨Aq,cq,rfl,_⟩:=id htoS
   refine Wu 4 [] hs rfl<|O_s (Et (H1:=[]) (H:=_::_::_::_::_::_::_::_::((T.drop (q+1)).map rE++[])) hs rfl func60 rfl kR (gW htoS oM) fun v11 G' H' _ hR hG108 hs=>?_)
   obtain ⟨rfl,rfl⟩:=hR
   replace hs:St _ _ (_::_::_::_::_::_::_::_::((T.drop (q+1)).map rE++[])) _:=hs
   have hGz:=hG104.trans (hG_htoS.trans hG108)
   replace hrs2:=hrs2.mono hGz
   replace hlg3:=hlg3.mono hGz
   replace htoS:=htoS.mono hG108
   refine Zy hs (Fp (a:=(Er to)) 2 rfl underlying114 aW zeroValue3 hnd rfl rfl (fun hno=>?_) (fun hyes=>?_))
   ·
    refine Wp 16 [13,4,8,11,12,13,14,15,20,21,22,23,24,97,0] hs rfl<|Zy hs (Dl 3 rfl underlying35 rfl hs<|Wp 6 [0] hs rfl<|O_s (Et (H1:=[]) (H:=_::_::_::_::_::_::_::_::((T.drop (q+1)).map rE++[])) hs rfl func60 rfl kR (gW htoS oM) fun v12 G' H' _ hR hG118 hs=>?_))
    obtain ⟨rfl,rfl⟩:=hR
    replace hs:St _ _ (_::_::_::_::_::_::_::_::((T.drop (q+1)).map rE++[])) _:=hs
    refine Wp 1 [] hs rfl<|O_n (Ks (a:=Er to) hs.f2 underlying114 aW hnd hno rfl rfl (by rw [AaC];rfl) fun _ hs =>Wp 4 [0] hs rfl<|O_s (Cq hs hM0 underlying35 sizeOf79 zeroValue79 rfl rfl dC dC rfl (cs:=[_]) rfl rfl fun v13 _ _ hG122 hl122 hs =>O_s (Au hs.f3 underlying35 gA rfl dC rfl rfl (hl122) (Cp rfl) oM oM fun v14 _ hs =>Wp 5 [11,4,8,11,12,13,14,15,20,21,23,97] hs rfl<|Zy hs (Bp (q) underlying80 sizeOf3 rfl rfl rfl oM<|O_n (Gc hs.f2 sizeOf3 rfl rfl rfl Z21 (cs':=(List.map Bx ((r++[l2.length])++List.replicate (256 - (q+1)) 0))) Z38 fun _ hs =>Wp 2 [0] hs rfl<|Zy hs (Ya (s:=((q+1:Nat):Int)) rfl<|Wp 1 [] hs rfl ?_))))))
    have hs:=hs.f7.f7.f7.f7.f5.f6.f7.f7
    have hno2:¬ Bc to l2<l2.length:=by rw [Qb htob hl2b,AaC] at hno;exact hno
    have hGz:=hG118.trans hG122
    replace hrs2:=hrs2.mono hGz
    replace hlg3:=hlg3.mono hGz
    replace htoS:=htoS.mono hGz
    refine Cr ⟨_,?_,[(4,_),(8,_),(11,_),(12,_),(13,_),(14,_),(15,_),(20,_),(97,_)],⟨rfl,rfl,rfl,rfl,rfl,rfl,rfl,rfl,rfl,trivial⟩,⟨q+1,l2++[to],r++[l2.length],_,v14,_,hlg3,by omega,by rw [Ib,← hfo,← hto,Tl hno2],hrs2.snoc htoS,by rw [AaB,Aac];omega,rfl,rfl,Bh hs sM⟩⟩
    omega
   refine Wp 17 [13,4,8,11,12,13,14,15,20,21,22,23,24,97,0] hs rfl<|Zy hs (Bp (q) underlying80 sizeOf3 rfl rfl rfl oM<|O_n (Gc hs sizeOf3 rfl rfl rfl Z21 (cs':=(List.map Bx ((r++[(Bc (Er to) (l2.map Er))])++List.replicate (256 - (q+1)) 0))) Z38 fun _ hs =>Wp 2 [0] hs rfl<|Zy hs (Ya (s:=((q+1:Nat):Int)) rfl<|Wp 1 [] hs rfl ?_)))
   have hs:=hs.f7.f7.f7.f7.f7.f7.f7.f7
   have hyes2:Bc to l2<l2.length:=by rw [Qb htob hl2b,AaC] at hyes;exact hyes
   rw [Qb htob hl2b] at hs
   refine Cr ⟨_,?_,[(4,_),(8,_),(11,_),(12,_),(13,_),(14,_),(15,_),(20,_),(97,_)],⟨rfl,rfl,rfl,rfl,rfl,rfl,rfl,rfl,rfl,trivial⟩,⟨q+1,l2,r++[Bc to l2],_,v122,_,hlg3,by omega,by rw [Ib,← hfo,← hto,Tk hyes2],hrs2,by omega,rfl,rfl,hs⟩⟩
   omega
  refine Wp 4 [0] hs rfl ?_
  obtain rfl:q=256:=by omega
  rw [Aaw,AbH,AaX] at hs
  rw [← hfo] at hgoN hgoS
  dsimp only at hgoN hgoS
  refine Wu 4 [] hs rfl<|Zy hs (Dl 3 rfl underlying35 rfl hs<|Zy hs (Yc rfl (fun h130=>?_) fun h130=>?_))
  ·
   refine Wp 4 [0] hs rfl<|Zy hs (Ce zeroValue37 rfl nN rfl (cs:=[_,_,_]) rfl<|O_n (Sg hs.f7 rfl (rfl) fun _ hs=>Wp 2 [0] hs rfl<|As ?_))
   have hr:=hs
   refine By (vs:=[_,_]) results21 rfl ⟨Bq 0 hr isAgg37 sizeOf37 rfl (cs:=[_,_,_]) rfl rfl,rfl,trivial⟩ ?_
   try dsimp only [tup]
   exact hs.q ⟨none,hRN (hgoN oM),rfl⟩
  refine Wp 4 [0] hs rfl<|Bg [1,2,3,4,5,6] hs kR ?_
  replace hs:=hs.drew
  refine Qm 0 rfl kR rfl (Ok rfl<|Xr [1] [] hs rfl<|Xt 2 hs rfl (Ci rfl<|Xr [3,4] [0,4] hs rfl<|Xt 5 hs rfl (Yk 0 rfl (by rw [AaC];exact hrl) ?_)))
  have hle:=hs.le
  refine Xo 6 rfl (wP hs underlying101 sizeOf80 zeroValue80 kR kR kR rfl (es:=[List.map Bx r]) rfl (by simp [hrl]) fun v15 _ hs _=>?_)
  obtain ⟨_,hG138,hl138,hs⟩:=hs.fixRow noM
  replace hrs2:=hrs2.mono hG138
  replace hlg0:=hlg0.mono hG138
  refine Ai hs hle hG138 (lSr _)<|Xa 7 rfl (Au hs.f5 underlying101 TI80 rfl dC rfl rfl (hl138) (one_rw) oM oM fun v16 _ hs =>Xa 8 rfl (S_y hs rfl (Ci rfl<|Xa 9 rfl (S_y hs rfl (Yf 0 rfl<|Xn 10 rfl (Sd hs.f5 rfl (hs.f5.rowOne 1 rfl) fun _ hs=>Xe (Zk [4,8,11,12,13,14] rfl ?_)))))))
  have hil2:i<l2.length:=by rw [hl2,AaB];omega
  have hSe2:l2[i]=S:=by rw [hSe];simp only [hl2];exact List.getElem_append_left hil
  obtain ⟨AS2,cS2,hvi2,hSv2⟩:=lr_at hrs2 hil2
  rw [hSe2] at hvi2 hSv2
  obtain ⟨bl2,capl2,hzbl2,_⟩:=hs.rowForm 5 rfl oM
  subst hzbl2
  refine Bg [1,2,3,4,5,6,7,8,9,10] hs kR ?_
  replace hs:=hs.drew
  refine Qm 0 rfl kR rfl (Ok rfl<|Xr [1] [] hs rfl<|Xt 2 hs rfl (Ci rfl<|Xr [3,4,5,6] [1,0] hs rfl<|Xt 7 hs rfl (Be (i) underlying35 sizeOf79 rfl rfl rfl oM<|Xt 8 hs rfl (Cm 5 rfl isAgg79 rfl (hvi2) ?_))))
  have hle:=hs.le
  refine Xo 9 rfl (Et (H1:=[]) (H:=_::_::_::_::_::_::_::_::((T.drop 256).map rE++[])) hs rfl func61 rfl kR (con7_ok (x:=0) hSv2 oM) fun v17 G' H' _ hR hG151 hs=>?_)
  obtain ⟨rfl,rfl⟩:=hR
  replace hs:St _ _ (_::_::_::_::_::_::_::_::((T.drop 256).map rE++[])) _:=hs
  replace hrs2:=hrs2.mono hG151
  replace hlg0:=hlg0.mono hG151
  refine Ai hs hle hG151 (lSr _) ?_
  have hle:=hs.le
  refine Xo 10 rfl (Cq hs hM0 underlying30 sizeOf4 zeroValue4 rfl rfl dC dC rfl (cs:=[_]) rfl rfl fun v18 _ _ hG152 hl152 hs=>?_)
  replace hrs2:=hrs2.mono hG152
  replace hlg0:=hlg0.mono hG152
  refine Ai hs hle hG152 (lSr _)<|Xa 11 rfl (Au hs.f6 underlying30 Pw rfl dC rfl rfl (hl152) (Cp rfl) Z36 Z36 fun v19 _ hs =>Xa 12 rfl (S_y hs rfl (Ci rfl<|Xa 13 rfl (S_y hs rfl (Yf 1 rfl<|Xn 14 rfl (Sd hs.f1 rfl (hs.f1.rowOne 1 rfl) fun _ hs=>Xe (Zk [4,8,11,12,13,14] rfl<|Wu 2 [] hs rfl<|Zy hs (Ya (s:=((i+1:Nat):Int)) rfl<|Wp 1 [] hs rfl ?_))))))))
  have hs:=hs.f7.f2.f3.f3.f7.f7
  have htk1:=Pe hil hl2 hSe
  refine Cr ⟨_,?_,[(4,_),(8,_),(11,_),(12,_),(13,_),(14,_)],⟨rfl,rfl,rfl,rfl,rfl,rfl,trivial⟩,⟨f1,i+1,l2,rows++[r],vs2,Vs bl2 l2.length capl2,v16,v19,_,hlg0,hgoS oM,hl2n,hlok2,by omega,by rw [AaB,hrl9];rfl,fun r9 h9=>Z12,by omega,hrs2,rfl,rfl,Bh (hs.wk [_,_,_,_,_,_]) (by rw [htk1,AaU,List.map_singleton,imgS_eq,kT];simp [Da])⟩⟩
  omega
 refine Wp 3 [0] hs rfl ?_
 obtain ⟨f1,rfl⟩:∃ g,m=g+1:=⟨m-1,by have:=lQ him;omega⟩
 have hfe:=imgG_end oM him
 rw [Aab oM] at hs
 obtain ⟨hAO,hsz,hpf⟩:=hRS _ _ hfe
 have hs:=hs.f3
 obtain ⟨_,hG_hfn,hfn,hs⟩:=hs.fixRow noM
 have hs:=hs.f3
 obtain ⟨_,hG_hfa,hfa,hs⟩:=hs.fixRow noM
 have hs:=hs.f2
 obtain ⟨_,hGbhB60,hB60,hs⟩:=hs.fixBlk (fun k _=>Gb k)
 replace hB60:Cg _ b60 _:=hB60
 replace hfn:=hfn.mono (hG_hfa.trans hGbhB60)
 have hra:=ra_of hfn hr256
 replace hfa:=hfa.mono hGbhB60
 have hba:Dt _ va (l.map Nj):=hfa
 refine Wu 3 [] hs rfl ?_
 replace hT:=hT.mono (hG_hfn.trans (hG_hfa.trans hGbhB60))
 refine O_s (Sp (zY ⟨_,_,hB60,hra,hba⟩ hAO hsz hT) hs rfl fun v20 G' _ hR hG157 hs=>?_)
 obtain ⟨R,hmR,hde157⟩:=hR
 obtain ⟨vd157,hre157,ea157,en157,ec157,fa157,fn157,fc157,ga157,gn157,gc157,hve157⟩:=hde157.tup
 subst hve157
 subst hre157
 refine Wp 2 [] hs rfl<|O_n (Sg hs.f2 rfl (rfl) fun _ hs=>Wp 2 [0] hs rfl<|As ?_)
 have hr:=hs
 refine By (vs:=[_,_]) results21 rfl ⟨Bq 0 hr isAgg37 sizeOf37 rfl (cs:=[_,_,_]) rfl rfl,rfl,trivial⟩ ?_
 try dsimp only [tup]
 exact hs.q ⟨R,hpf.trans hmR,hde157⟩
theorem bZ {c:List Nat} {x:UInt8} {z:Int} (hc:c.length=4) (hz:z=(x.toNat:Int)) :
  Ba prog 101 [Ig c,Vi z] G [] fun r _ H'=>H'=[]∧r=Ig (Hp c x):=by
 subst hz
 have hx:=x.toNat_lt
 have hcell:(c.map Bb)[x.toNat / 64]?=some (Bb (c.getD (x.toNat / 64) 0)):=by rw [Aak,AaA oM,AaH,AaA oM];rfl
 have hal:(Hp c x).length=4:=by unfold Hp;rw [AaP];exact hc
 refine Ba.of_T [(0,_),(1,_)] func101 rfl ntmps101 sM rfl fun w0 hs =>Wt 2 [] hs rfl<|O_s (Fj hs rfl (cs:=(List.map Bb c)) rfl fun b2 _ hs =>O_s (Bs hs zeroValue86 (cs:=(List.map Bb [0,0,0,0])) rfl fun b4 _ hs =>Wp 2 [0] hs rfl<|Bg [0,1,2,3,4,5,6,7,8,9,10] hs kR ?_))
 replace hs:=hs.drew
 refine Xr [0] [] hs rfl<|Xt 1 hs rfl (pH (c:=((x.toNat / 64:Nat):Int)) rfl rfl oM oM oM<|Xr [2] [] hs rfl<|Xt 3 hs rfl (pH (c:=((x.toNat / 64:Nat):Int)) rfl rfl oM oM oM<|Xt 4 hs rfl (Bp (x.toNat / 64) underlying86 sizeOf84 rfl rfl rfl oM<|Xt 5 hs rfl (Ej 1 isAgg84 rfl rfl hcell<|Xr [6] [] hs rfl<|Xt 7 hs rfl (Gq (c:=((x.toNat % 64:Nat):Int)) rfl rfl oM oM oM<|Xt 8 hs rfl (wL (x.toNat % 64) oM rfl rfl<|Xt 9 hs rfl (mR rfl rfl<|Xt 10 hs rfl (Bp (x.toNat / 64) underlying86 sizeOf84 rfl rfl rfl oM<|Xn 11 rfl (Gc hs.f1 sizeOf84 rfl rfl rfl iA (cs':=(Hp c x).map Bb) (by unfold Hp;rw [Aad]) fun _ hs =>Xe (Zk [2,4] rfl<|Wu 2 [] hs rfl<|Zy hs (Yk 0 rfl Ph<|O_n (Sw hs.f1 rfl (vs:=(List.map Bb (Hp c x))) Ph Ph (Dk _) fun _ hs=>Wp 1 [0] hs rfl<|As ?_))))))))))))
 have hr:=hs
 refine By (vs:=[_]) results101 rfl ⟨Bq 0 hr isAgg86 sizeOf86 rfl (cs:=(List.map Bb (Hp c x))) rfl Ph,trivial⟩ ?_
 try dsimp only [tup]
 exact hs.q rfl
theorem Mq {v v2:Value} {a b:List UInt8} (ha:Bd G v a) (hb:Bd G v2 b) (hal:a.length≤100000000) (hbl:b.length≤100000000) :
  Ba prog 23 [v,v2] G [] fun r _ H'=>H'=[]∧r=.bool (decide (a=b)):=by
 obtain ⟨Aa,ca,rfl,_⟩:=id ha
 obtain ⟨Ab,cb,rfl,_⟩:=id hb
 refine Ba.of_T [(0,_),(1,_)] func23 rfl ntmps23 sM rfl fun w0 hs=>?_
 have ha0:=ha
 have hb0:=hb
 refine Wt 7 [0] hs rfl<|Zy hs (Kq (bs:=a) underlying22 underlying5 underlying9 rfl ha<|Wp 1 [] hs rfl<|Zy hs (Kq (bs:=b) underlying22 underlying5 underlying9 rfl hb<|Zy hs (iH (a:=a) (b:=b) rfl rfl (fun h9=>?_) (fun h9=>?_))))
 ·
  refine Wp 2 [0] hs rfl<|As<|Zz results23 rfl ?_
  exact hs.q (congrArg Value.bool (decide_eq_true h9).symm)
 refine Wp 2 [0] hs rfl<|As<|Zz results23 rfl ?_
 exact hs.q (congrArg Value.bool (decide_eq_false h9).symm)
theorem gX {a b:UInt8} (h1:ev E o=some (.int .u8 (a.toNat:Int))) (h2:ev E p=some (.int .u8 (b.toNat:Int))) (k:K (.int .u8 ((a+b).toNat:Int))):Y x W ⟨d,.binOp .add xt o p yt,ty,pos,aft,g⟩ E K:=by
  refine mO h1 h2 ?_
  rw [show IntKind.u8.wrap ((a.toNat:Int)+(b.toNat:Int))=((a+b).toNat:Int) from by
    rw [show ((a.toNat:Int)+(b.toNat:Int))=((a.toNat+b.toNat:Nat):Int) from by omega,Dx,Aav,UInt8.toNat_add]]
  exact k
theorem cC {w:List UInt8} {n k:Nat} (hk:k<w.length):Lb w (k+1)=Lb w k++[jT w[k]]:=by
  unfold Lb;rw [Aay,AaA hk,AaU];rfl
theorem sU {x:UInt8} (h:(x.toNat:Int)<97∨100<(x.toNat:Int)):jT x=97+x % 4:=by
  unfold jT;rw [if_pos]
  rcases h with h | h
  · left;rw [AcC];show x.toNat<97;omega
  · right;rw [AcC];show 100<x.toNat;omega
theorem fix_no {x:UInt8} (h1:¬ (x.toNat:Int)<97) (h2:¬ 100<(x.toNat:Int)):jT x=x:=by
  unfold jT;rw [if_neg]
  rintro (h | h)
  · rw [AcC] at h;have:x.toNat<97:=h;omega
  · rw [AcC] at h;have:100<x.toNat:=h;omega
theorem Nr (w:List UInt8) (n:Nat):(Lb w n).length=min n w.length:=by unfold Lb;rw [AaC,Aag]
theorem Ts {v:Value} {wd:List UInt8} {n:Nat} (hw:Bd G v wd) (hwl:wd.length≤1000000000) (hn:n≤1000000000) :
  Ba prog 32 [v,Vi (n:Int)] G [] fun r G' H'=>H'=[]∧Bd G' r (Lb wd n):=by
 obtain ⟨Aw,cw,rfl,_⟩:=id hw
 refine Ba.of_T [(0,_),(1,_)] func32 rfl ntmps32 sM rfl fun w0 hs=>?_
 have hw0:=hw
 have hM0:=hs.feetLt
 refine Wt 6 [0] hs rfl<|O_s (Se hs zeroValue5 rfl fun v1 _ hs _=>Wp 7 [0,0] hs rfl ?_)
 replace hs:=Bh hs (show _=[.row 5 1 _ 0 ((Lb wd 0).map Dy)] from rfl)
 obtain ⟨Gp0,hGp⟩:=hs.name
 subst hGp
 have hw_0:=hw
 refine Zl [0,1,5,6] (fun m E w=>∃ (k:Nat) (v5:Value) (G2:Ah),Cu Gp0 G2∧k≤wd.length∧k≤n∧m=wd.length-k∧E=⟨[],[(0,(.slice Aw wd.length cw)),(1,Vi (n:Int)),(5,v5),(6,Vi (k:Int))]⟩∧St ⟨w0,Gp0,Bj []⟩ G2 [.row 5 1 v5 k ((Lb wd k).map Dy)] w) rfl (⟨0,_,_,Cu.refl _,Aas _,Aas _,rfl,rfl,hs⟩) fun m E w hI=>?_
 obtain ⟨k,v5,G2,hlg0,hk9,hkn,rfl,rfl,hs⟩:=hI
 have hw:=hw_0.mono hlg0
 refine Wt 6 [] hs rfl<|Zy hs (Yc rfl (fun h12=>?_) fun h12=>?_)
 ·
  refine Wp 3 [] hs rfl<|Zg hs rfl (Yc rfl (fun h16=>?_) fun h16=>?_)
  ·
   refine Wp 10 [0] hs rfl<|Zy hs (Ek hw k underlying22 sizeOf5 rfl rfl rfl oM fun p22 hp22=>?_)
   obtain ⟨xb,hxb⟩:∃ z,z=wd[k]'oM:=⟨_,rfl⟩
   rw [← hxb] at hp22
   refine Zy hs (Yg rfl (hp22)<|Wp 6 [0] hs rfl<|Zy hs (Yc rfl (fun h25=>?_) fun h25=>?_))
   ·
    refine Wp 8 [0] hs rfl<|Zy hs (Gq (c:=((xb % 4:UInt8).toNat:Int)) rfl rfl oM oM Z57<|Zy hs (gX (a:=97) rfl rfl<|Wp 5 [5,0,1,5,6,7] hs rfl<|O_s (Cq hs hM0 underlying22 sizeOf5 zeroValue5 rfl rfl dC dC rfl (cs:=[_]) rfl rfl fun v2 _ _ hG35 hl35 hs =>O_s (Au hs underlying22 cK rfl dC rfl rfl (hl35) (Cp rfl) oM oM fun v3 _ hs =>Wp 4 [0] hs rfl<|Zy hs (Ya (s:=((k+1:Nat):Int)) rfl<|Wp 1 [] hs rfl ?_)))))
    replace hlg0:=hlg0.mono hG35
    refine Zx [0,1,5,6] rfl ⟨k+1,_,_,hlg0,by omega,by omega,rfl,rfl,Bh hs (by rw [cC (n:=n) oM,← hxb,sU (.inl h25),AaU];rfl)⟩
   refine Wp 2 [] hs rfl<|Zg hs rfl (Yc rfl (fun h28=>?_) fun h28=>?_)
   ·
    refine Wp 5 [0] hs rfl<|Zy hs (Gq (c:=((xb % 4:UInt8).toNat:Int)) rfl rfl oM oM Z57<|Zy hs (gX (a:=97) rfl rfl<|Wp 5 [5,0,1,5,6,7] hs rfl<|O_s (Cq hs hM0 underlying22 sizeOf5 zeroValue5 rfl rfl dC dC rfl (cs:=[_]) rfl rfl fun v4 _ _ hG35 hl35 hs =>O_s (Au hs underlying22 cK rfl dC rfl rfl (hl35) (Cp rfl) oM oM fun v5 _ hs =>Wp 4 [0] hs rfl<|Zy hs (Ya (s:=((k+1:Nat):Int)) rfl<|Wp 1 [] hs rfl ?_)))))
    replace hlg0:=hlg0.mono hG35
    refine Zx [0,1,5,6] rfl ⟨k+1,_,_,hlg0,by omega,by omega,rfl,rfl,Bh hs (by rw [cC (n:=n) oM,← hxb,sU (.inr h28),AaU];rfl)⟩
   refine Wp 7 [0] hs rfl<|O_s (Cq hs hM0 underlying22 sizeOf5 zeroValue5 rfl rfl dC dC rfl (cs:=[_]) rfl rfl fun v6 _ _ hG35 hl35 hs =>O_s (Au hs underlying22 cK rfl dC rfl rfl (hl35) (Cp rfl) oM oM fun v7 _ hs =>Wp 4 [4,0,1,5,6] hs rfl<|Zy hs (Ya (s:=((k+1:Nat):Int)) rfl<|Wp 1 [] hs rfl ?_)))
   replace hlg0:=hlg0.mono hG35
   refine Zx [0,1,5,6] rfl ⟨k+1,_,_,hlg0,by omega,by omega,rfl,rfl,Bh hs (by rw [cC (n:=n) oM,← hxb,fix_no h25 h28,AaU];rfl)⟩
  refine Wp 4 [0] hs rfl<|Wu 5 [0] hs rfl<|As ?_
  obtain ⟨_,hG_hfw,hfw,hs⟩:=hs.fixRow noM
  refine Zz results32 rfl ?_
  have hkf:Lb wd n=Lb wd k:=by unfold Lb;rcases AaM k n with h9 | h9;(rw [Aab (show wd.length≤n by omega),Aab (show wd.length≤k by omega)]);(rw [show k=n by omega])
  exact hs.q (by rw [hkf];exact Bd.ofSl hfw (by rw [Nr];omega) rfl)
 refine Wp 8 [0] hs rfl<|Wu 5 [0] hs rfl<|As ?_
 obtain ⟨_,hG_hfw,hfw,hs⟩:=hs.fixRow noM
 refine Zz results32 rfl ?_
 have hkf:Lb wd n=Lb wd k:=by unfold Lb;rcases AaM k n with h9 | h9;(rw [Aab (show wd.length≤n by omega),Aab (show wd.length≤k by omega)]);(rw [show k=n by omega])
 exact hs.q (by rw [hkf];exact Bd.ofSl hfw (by rw [Nr];omega) rfl)
def lS (d e:Cy):Bool:=decide (d.cls=e.cls) && decide (d.next=e.next) && decide (d.acc=e.acc)
theorem Ga {d e:Cy}:lS d e=true↔d=e:=by
  unfold lS;cases d;cases e
  simp only [Aah,decide_eq_true_eq,Cy.mk.injEq,and_assoc]
theorem Kg {α:Type} {a b:List α} {k:Nat} (ha:k<a.length) (hb:k<b.length) (h:a.take k=b.take k) (h2:a[k]=b[k]):a.take (k+1)=b.take (k+1):=by
  rw [Aay,Aay,AaA ha,AaA hb,h,h2]
theorem Lw {α:Type} {a b:List α} {k:Nat} (ha:a.length≤k) (hl:a.length=b.length) (h:a.take k=b.take k):a=b:=by
  rwa [Aab ha,Aab oM] at h
theorem at_ne {α:Type} {a b:List α} {k:Nat} (ha:k<a.length) (hb:k<b.length) (h2:¬ a[k]=b[k]):¬ a=b:=fun h=>h2 (by simp only [h])
theorem lT {l:List Pc} {k:Nat} {b:UInt8} (h:k<l.length):Gt (l.take (k+1)) b=Gt (l.take k) b++Gt [l[k]] b:=by
  unfold Gt;rw [Aay,AaA h,AaU];rfl
theorem sint7_ok {v v2:Value} {a b:List Nat} (ha:De G v a) (hb:De G v2 b) (hal:a.length≤1000000000) :
  Ba prog 68 [v,v2] G [] fun r _ H'=>H'=[]∧r=.bool (decide (a=b)):=by
 obtain ⟨Aa,ca,rfl,_⟩:=id ha
 obtain ⟨Ab,cb,rfl,_⟩:=id hb
 refine Ba.of_T [(0,_),(1,_)] func68 rfl ntmps68 sM rfl fun w0 hs=>?_
 have ha0:=ha
 have hb0:=hb
 refine Wt 11 [0] hs rfl<|Zy hs (Yc rfl (fun h10=>?_) fun h10=>?_)
 ·
  refine Wp 6 [0,0] hs rfl<|As<|Zz results68 rfl ?_
  exact hs.q (congrArg Value.bool (decide_eq_false fun h9=>h10 (by rw [h9])).symm)
 refine Wp 8 [0,0] hs rfl ?_
 have hab:a.length=b.length:=by omega
 obtain ⟨Gp0,hGp⟩:=hs.name
 subst hGp
 have ha_0:=ha
 have hb_0:=hb
 refine Zl [0,1,5] (fun m E w=>∃ (k:Nat) (G2:Ah),Cu Gp0 G2∧k≤a.length∧a.take k=b.take k∧m=a.length-k∧E=⟨[],[(0,(.slice Aa a.length ca)),(1,(.slice Ab b.length cb)),(5,Vi (k:Int))]⟩∧St ⟨w0,Gp0,Bj []⟩ G2 [] w) rfl (⟨0,_,Cu.refl _,Aas _,rfl,rfl,rfl,hs⟩) fun m E w hI=>?_
 obtain ⟨k,G2,hlg0,hk9,hte,rfl,rfl,hs⟩:=hI
 have ha:=ha_0.mono hlg0
 have hb:=hb_0.mono hlg0
 refine Wt 6 [] hs rfl<|Zy hs (Yc rfl (fun h14=>?_) fun h14=>?_)
 ·
  refine Wp 3 [0] hs rfl ?_
  obtain ⟨x,hx⟩:∃ z,z=a[k]'oM:=⟨_,rfl⟩
  obtain ⟨y,hy⟩:∃ z,z=b[k]'oM:=⟨_,rfl⟩
  refine Wu 3 [] hs rfl<|Bg [0,1,2,3,4,5,6,7,8] hs kR ?_
  replace hs:=hs.drew
  refine Xr [0,1] [] hs rfl<|Xt 2 hs rfl (Ct ha k underlying79 sizeOf3 rfl rfl rfl oM fun p19 hp19=>?_)
  rw [← hx] at hp19
  refine Xt 3 hs rfl (Yg rfl (hp19)<|Xr [4,5] [] hs rfl<|Xt 6 hs rfl (Ct hb k underlying79 sizeOf3 rfl rfl rfl oM fun p23 hp23=>?_))
  rw [← hy] at hp23
  refine Xt 7 hs rfl (Yg rfl (hp23)<|Xt 8 hs rfl (Qn rfl rfl rfl (fun h25=>?_) (fun h25=>?_)))
  ·
   dsimp only [Jg] at h25
   refine Xe (Zk [0,1,5,25] rfl<|Wu 5 [0] hs rfl<|As<|Zz results68 rfl ?_)
   exact hs.q (congrArg Value.bool (decide_eq_false (at_ne (k:=k) oM oM (by rw [← hx,← hy];omega))).symm)
  dsimp only [Jg] at h25
  refine Xe (Zk [0,1,5,25] rfl<|Wu 4 [] hs rfl<|Zy hs (Ya (s:=((k+1:Nat):Int)) rfl<|Wp 1 [] hs rfl<|Zx [0,1,5] rfl ⟨k+1,_,hlg0,by omega,Kg oM oM hte (by rw [← hx,← hy];omega),rfl,rfl,hs⟩))
 refine Wp 3 [0] hs rfl<|Wu 4 [0] hs rfl<|As<|Zz results68 rfl ?_
 exact hs.q (congrArg Value.bool (decide_eq_true (Lw (k:=k) oM hab hte)).symm)
theorem vQ {a:UInt8} (h:3≤a.toNat):IntKind.u8.wrap ((a.toNat:Int)-3)=((a-3).toNat:Int):=by
  rw [show ((a.toNat:Int)-3)=((a.toNat-3:Nat):Int) from by omega,Dx,Aav,UInt8.toNat_sub]
  show _=(((256-3+a.toNat) % 256:Nat):Int)
  have:=a.toNat_lt;omega
theorem Y_sub3 {a:UInt8} (h:3≤a.toNat) (h1:ev E o=some (.int .u8 (a.toNat:Int))) (h2:ev E p=some (.int .u8 3)) (k:K (.int .u8 ((a-3).toNat:Int))):Y x W ⟨d,.binOp .sub xt o p yt,ty,pos,aft,g⟩ E K :=
  mP h1 h2 (by rw [vQ h];exact k)
theorem piece_y {z:UInt8} (h:z.toNat≤2):Iw z.toNat=⟨true,0⟩:=if_pos h
theorem piece_n {z:UInt8} (h:¬ z.toNat≤2) (hz:z.toNat≤4):Iw z.toNat=⟨false,97+z-3⟩:=by
  unfold Iw;rw [if_neg h]
  congr 1
  have h3:z.toNat=3∨z.toNat=4:=by omega
  rcases h3 with h3 | h3
  · rw [h3,show z=3 from AcI.1 h3];rfl
  · rw [h3,show z=4 from AcI.1 h3];rfl
theorem z97 {z:UInt8} (hz:z.toNat≤4):(97+z).toNat=97+z.toNat:=by rw [UInt8.toNat_add];show (97+z.toNat) % 256=_;omega
theorem lU {z:UInt8} (hz:z.toNat≤4) :
  Ba prog 43 [.int .u8 (z.toNat:Int)] G [] fun r _ H'=>H'=[]∧r=.agg #[.bool (Iw z.toNat).copy,.int .u8 ((Iw z.toNat).b.toNat:Int)]:=by
 refine Ba.of_T [(0,_)] func43 rfl ntmps43 sM rfl fun w0 hs =>Wt 2 [] hs rfl<|O_s (Sa hs zeroValue76 rfl fun b2 _ hs=>Wp 5 [0] hs rfl<|Zy hs (Yc rfl (fun h4=>?_) fun h4=>?_))
 ·
  refine Wp 4 [0] hs rfl<|Zy hs (Ce zeroValue76 rfl gN rfl (cs:=[_,_]) rfl<|O_n (Sg hs rfl (rfl) fun _ hs=>Wp 1 [0] hs rfl<|As<|Zz results43 (Rb 0 hs rfl rF) ?_))
  exact hs.q (by rw [piece_y oM];rfl)
 refine Wp 6 [0] hs rfl<|Zy hs (gX (a:=97) rfl rfl<|Zy hs (Y_sub3 (a:=97+z) (by rw [z97 hz];omega) rfl rfl<|Zy hs (Ce zeroValue76 rfl gN rfl (cs:=[_,_]) rfl<|O_n (Sg hs rfl (rfl) fun _ hs=>Wp 1 [0] hs rfl<|As<|Zz results43 (Rb 0 hs rfl rF) ?_))))
 exact hs.q (by rw [piece_n oM hz])
theorem wref7_ok {v:Value} {l:List Pc} {b:UInt8} (hl:mJ G v l) (hn:l.length≤1000000000) :
  Ba prog 44 [v,.int .u8 (b.toNat:Int)] G [] fun r G' H'=>H'=[]∧Bd G' r (Gt l b):=by
 obtain ⟨A,cap,rfl⟩:=hl.slice
 refine Ba.of_T [(0,_),(1,_)] func44 rfl ntmps44 sM rfl fun w0 hs=>?_
 have hl0:=hl
 have hM0:=hs.feetLt
 refine Wt 6 [0] hs rfl<|O_s (Se hs zeroValue5 rfl fun v1 _ hs _=>Wp 7 [0,0] hs rfl ?_)
 replace hs:=Bh hs (show _=[.row 5 1 _ 0 ((Gt (l.take 0) b).map Dy)] from rfl)
 obtain ⟨Gp0,hGp⟩:=hs.name
 subst hGp
 have hl_0:=hl
 refine Zl [0,1,5,6] (fun m E w=>∃ (k:Nat) (v5:Value) (G2:Ah),Cu Gp0 G2∧k≤l.length∧m=l.length-k∧E=⟨[],[(0,(.slice A l.length cap)),(1,.int .u8 (b.toNat:Int)),(5,v5),(6,Vi (k:Int))]⟩∧St ⟨w0,Gp0,Bj []⟩ G2 [.row 5 1 v5 k ((Gt (l.take k) b).map Dy)] w) rfl (⟨0,_,_,Cu.refl _,Aas _,rfl,rfl,hs⟩) fun m E w hI=>?_
 obtain ⟨k,v5,G2,hlg0,hk9,rfl,rfl,hs⟩:=hI
 have hl:=hl_0.mono hlg0
 refine Wt 6 [] hs rfl<|Zy hs (Yc rfl (fun h11=>?_) fun h11=>?_)
 ·
  refine Wp 9 [0] hs rfl<|Zy hs (Ca hl k underlying72 sizeOf76 rfl rfl rfl oM fun p16 c16 hp16 hc16 hR16=>?_)
  obtain ⟨p,hpe⟩:∃ q,q=l[k]'oM:=⟨_,rfl⟩
  rw [← hpe] at hR16
  obtain rfl:c16=[.bool p.copy,.int .u8 (p.b.toNat:Int)]:=hR16
  refine Zy hs (Nf O76_0.p rfl<|Zy hs (Yg rfl (hp16 0 _ rfl)<|Wp 1 [0] hs rfl<|Fk rfl (fun hq=>?_) (fun hq=>?_)))
  ·
   refine Wu 3 [] hs rfl<|O_s (Cq hs hM0 underlying22 sizeOf5 zeroValue5 rfl rfl dC dC rfl (cs:=[_]) rfl rfl fun v2 _ _ hG21 hl21 hs =>O_s (Au hs underlying22 cK rfl dC rfl rfl (hl21) (Cp rfl) oM oM fun v3 _ hs =>Wp 4 [0] hs rfl<|Zy hs (Ya (s:=((k+1:Nat):Int)) rfl<|Wp 1 [] hs rfl ?_)))
   replace hlg0:=hlg0.mono hG21
   refine Zx [0,1,5,6] rfl ⟨k+1,_,_,hlg0,by omega,rfl,rfl,Bh hs (by rw [lT oM,← hpe,AaU];simp [Gt,hq,Dy])⟩
  refine Wu 4 [] hs rfl<|Zy hs (Ca hl k underlying72 sizeOf76 rfl rfl rfl oM fun p26 c26 hp26 hc26 hR26=>?_)
  rw [← hpe] at hR26
  obtain rfl:c26=[.bool p.copy,.int .u8 (p.b.toNat:Int)]:=hR26
  refine Zy hs (Nf O76_1.p rfl<|Zy hs (Yg rfl (hp26 1 _ rfl)<|O_s (Cq hs hM0 underlying22 sizeOf5 zeroValue5 rfl rfl dC dC rfl (cs:=[_]) rfl rfl fun v4 _ _ hG29 hl29 hs =>O_s (Au hs underlying22 cK rfl dC rfl rfl (hl29) (Cp rfl) oM oM fun v5 _ hs =>Wp 4 [0] hs rfl<|Zy hs (Ya (s:=((k+1:Nat):Int)) rfl<|Wp 1 [] hs rfl ?_)))))
  replace hlg0:=hlg0.mono hG29
  refine Zx [0,1,5,6] rfl ⟨k+1,_,_,hlg0,by omega,rfl,rfl,Bh hs (by rw [lT oM,← hpe,AaU];simp [Gt,hq,Dy])⟩
 refine Wp 3 [0] hs rfl<|Wu 5 [0] hs rfl<|As ?_
 obtain rfl:k=l.length:=by omega
 obtain ⟨_,hG_hfw,hfw,hs⟩:=hs.fixRow noM
 refine Zz results44 rfl ?_
 rw [Aaj] at hfw
 exact hs.q (Bd.ofSl hfw (Lt _ _).symm rfl)
structure SmOk (d:Cy):Prop where
  n2:d.next.length≤60000
  al:d.acc.length=d.next.length
  k2:d.cls.length≤256
  row:∀ r∈d.next,r.length≤256
theorem smOk {d:Cy} (h:Cn7.DOk d):SmOk d:=⟨h.n2,h.al,h.k2,fun r hr=>(h.row r hr).1▸h.k2⟩
theorem same7_ok {v v2:Value} {d1 d2:Cy} (hd1:Hm G v d1) (hd2:Hm G v2 d2) (hk1:SmOk d1) :
  Ba prog 24 [v,v2] G [] fun r _ H'=>H'=[]∧r=.bool (lS d1 d2):=by
 obtain ⟨vc1,vn1,va1,rfl,hC1,hN1,hA1⟩:=hd1
 obtain ⟨Ac1,cc1,rfl⟩:=Bi.slice hC1
 obtain ⟨An1,cn1,rfl⟩:=Bi.slice hN1
 obtain ⟨Aa1,ca1,rfl,_⟩:=id hA1
 obtain ⟨vc2,vn2,va2,rfl,hC2,hN2,hA2⟩:=hd2
 obtain ⟨Ac2,cc2,rfl⟩:=Bi.slice hC2
 obtain ⟨An2,cn2,rfl⟩:=Bi.slice hN2
 obtain ⟨Aa2,ca2,rfl,_⟩:=id hA2
 have hn1:=hk1.n2
 have ha1:=hk1.al
 have hc1:=hk1.k2
 refine Ba.of_T [(0,_),(1,_)] func24 rfl ntmps24 sM rfl fun w0 hs=>?_
 have hC10:=hC1
 have hN10:=hN1
 have hA10:=hA1
 have hC20:=hC2
 have hN20:=hN2
 have hA20:=hA2
 refine Wt 2 [] hs rfl<|O_s (Sb hs rfl fun b2 _ hs=>O_s (Sb hs rfl fun b3 _ hs=>Wp 2 [0] hs rfl ?_))
 have hs:=hs.f1
 obtain ⟨_,hGbhB2,hB2,hs⟩:=hs.fixBlk (fun k _=>Gb k)
 replace hB2:Cg _ b2 _:=hB2
 obtain ⟨_,hGbhB3,hB3,hs⟩:=hs.fixBlk (fun k _=>Gb k)
 replace hB3:Cg _ b3 _:=hB3
 refine Wu 4 [0] hs rfl ?_
 replace hB2:=hB2.mono hGbhB3
 refine Zy hs (Yg rfl (hB2 0 _ rfl)<|Wp 2 [0] hs rfl<|Zy hs (Yg rfl (hB3 0 _ rfl)<|Wp 1 [] hs rfl ?_))
 have hGz:=hGbhB2.trans hGbhB3
 replace hC1:=hC1.mono hGz
 replace hN1:=hN1.mono hGz
 replace hA1:=hA1.mono hGz
 replace hC2:=hC2.mono hGz
 replace hN2:=hN2.mono hGz
 replace hA2:=hA2.mono hGz
 refine Zy hs (Yc rfl (fun h14=>?_) fun h14=>?_)
 ·
  refine Wp 24 [3,2,3,32,0] hs rfl<|As<|Zz results24 rfl ?_
  exact hs.q (congrArg Value.bool (Abi.2 fun h9=>(by have h8:=Ga.1 h9;subst h8;omega)).symm)
 refine Wp 2 [1] hs rfl<|Zg hs rfl (Yg rfl (hB2 1 _ rfl)<|Wp 2 [1] hs rfl<|Zg hs rfl (Yg rfl (hB3 1 _ rfl)<|Wp 1 [] hs rfl<|Zg hs rfl (Yc rfl (fun h22=>?_) fun h22=>?_)))
 ·
  refine Wp 16 [3,2,3,32,0] hs rfl<|As<|Zz results24 rfl ?_
  exact hs.q (congrArg Value.bool (Abi.2 fun h9=>(by have h8:=Ga.1 h9;subst h8;omega)).symm)
 refine Wp 3 [2] hs rfl<|Zg hs rfl (Yg rfl (hB2 2 _ rfl)<|Wp 2 [2] hs rfl<|Zg hs rfl (Yg rfl (hB3 2 _ rfl)<|Wp 1 [] hs rfl<|Zg hs rfl (Yc rfl (fun h31=>?_) fun h31=>?_)))
 ·
  refine Wp 7 [3,2,3,32,0] hs rfl<|As<|Zz results24 rfl ?_
  exact hs.q (congrArg Value.bool (Abi.2 fun h9=>(by have h8:=Ga.1 h9;subst h8;omega)).symm)
 refine Wp 9 [3,2,3,32,0] hs rfl ?_
 have hl1:d1.cls.length=d2.cls.length:=by omega
 have hl2:d1.next.length=d2.next.length:=by omega
 have hl3:d1.acc.length=d2.acc.length:=by omega
 obtain ⟨Gp0,hGp⟩:=hs.name
 subst hGp
 have hC1_0:=hC1
 have hN1_0:=hN1
 have hA1_0:=hA1
 have hC2_0:=hC2
 have hN2_0:=hN2
 have hA2_0:=hA2
 have hB2_0:=hB2
 have hB3_0:=hB3
 refine Zl [2,3,5] (fun m E w=>∃ (k:Nat) (G2:Ah),Cu Gp0 G2∧k≤d1.cls.length∧d1.cls.take k=d2.cls.take k∧m=d1.cls.length-k∧E=⟨[],[(2,Vp b2),(3,Vp b3),(5,Vi (k:Int))]⟩∧St ⟨w0,G,Bj []⟩ G2 [] w) rfl (⟨0,_,Cu.refl _,Aas _,rfl,rfl,rfl,hs⟩) fun m E w hI=>?_
 obtain ⟨k,G2,hlg0,hk9,hte,rfl,rfl,hs⟩:=hI
 have hC1:=hC1_0.mono hlg0
 have hN1:=hN1_0.mono hlg0
 have hA1:=hA1_0.mono hlg0
 have hC2:=hC2_0.mono hlg0
 have hN2:=hN2_0.mono hlg0
 have hA2:=hA2_0.mono hlg0
 have hB2:=hB2_0.mono hlg0
 have hB3:=hB3_0.mono hlg0
 refine Wt 5 [0] hs rfl<|Zy hs (Yg rfl (hB2 0 _ rfl)<|Wp 1 [] hs rfl<|Zy hs (Yc rfl (fun h37=>?_) fun h37=>?_))
 ·
  refine Wp 3 [0] hs rfl ?_
  obtain ⟨x,hx⟩:∃ z,z=d1.cls[k]'oM:=⟨_,rfl⟩
  obtain ⟨y,hy⟩:∃ z,z=d2.cls[k]'oM:=⟨_,rfl⟩
  refine Wu 3 [] hs rfl<|Bg [0,1,2,3,4,5,6,7,8,9,10] hs kR ?_
  replace hs:=hs.drew
  refine Xr [0] [0] hs rfl<|Xt 1 hs rfl (Yg rfl (hB2 0 _ rfl)<|Xr [2] [] hs rfl<|Xt 3 hs rfl (Ca hC1 k underlying28 sizeOf86 rfl rfl rfl oM fun p43 c43 hp43 hc43 hR43=>?_))
  rw [← hx] at hR43
  obtain ⟨rfl,h4x,h6x⟩:=hR43
  refine Xt 4 hs rfl (Db (vs:=List.map Bb x) isAgg86 sizeOf86 rfl hp43 hc43<|Xr [5] [0] hs rfl<|Xt 6 hs rfl (Yg rfl (hB3 0 _ rfl)<|Xr [7] [] hs rfl<|Xt 8 hs rfl (Ca hC2 k underlying28 sizeOf86 rfl rfl rfl oM fun p48 c48 hp48 hc48 hR48=>?_)))
  rw [← hy] at hR48
  obtain ⟨rfl,h4y,h6y⟩:=hR48
  refine Xt 9 hs rfl (Db (vs:=List.map Bb y) isAgg86 sizeOf86 rfl hp48 hc48<|Xt 10 hs rfl (Nc (a:=x) (b:=y) underlying86 sizeOf84 isAgg84 underlying84 rfl rfl rfl h4x h4y h6x h6y (fun h50=>?_) (fun h50=>?_)))
  ·
   refine Xe (Zk [2,3,5,50] rfl<|Wu 5 [0] hs rfl<|As<|Zz results24 rfl ?_)
   exact hs.q (congrArg Value.bool (Abi.2 fun h9=>(by have h8:=Ga.1 h9;subst h8;exact h50 (by rw [hx,hy]))).symm)
  refine Xe (Zk [2,3,5,50] rfl<|Wu 4 [] hs rfl<|Zy hs (Ya (s:=((k+1:Nat):Int)) rfl<|Wp 1 [] hs rfl<|Zx [2,3,5] rfl ⟨k+1,_,hlg0,by omega,Kg oM oM hte (by rw [← hx,← hy,h50]),rfl,rfl,hs⟩))
 refine Wp 3 [0] hs rfl ?_
 have hce:d1.cls=d2.cls:=Lw (k:=k) oM hl1 hte
 refine Wu 5 [0] hs rfl ?_
 obtain ⟨Gp1,hGp⟩:=hs.name
 subst hGp
 have hC1_1:=hC1
 have hN1_1:=hN1
 have hA1_1:=hA1
 have hC2_1:=hC2
 have hN2_1:=hN2
 have hA2_1:=hA2
 have hB2_1:=hB2
 have hB3_1:=hB3
 have hlg0_1:=hlg0
 refine Zl [2,3,6] (fun m E w=>∃ (k:Nat) (G2:Ah),Cu Gp1 G2∧k≤d1.next.length∧d1.next.take k=d2.next.take k∧m=d1.next.length-k∧E=⟨[],[(2,Vp b2),(3,Vp b3),(6,Vi (k:Int))]⟩∧St ⟨w0,G,Bj []⟩ G2 [] w) rfl (⟨0,_,Cu.refl _,Aas _,rfl,rfl,rfl,hs⟩) fun m E w hI=>?_
 obtain ⟨k,G2,hlg1,hk9,hte,rfl,rfl,hs⟩:=hI
 have hC1:=hC1_1.mono hlg1
 have hN1:=hN1_1.mono hlg1
 have hA1:=hA1_1.mono hlg1
 have hC2:=hC2_1.mono hlg1
 have hN2:=hN2_1.mono hlg1
 have hA2:=hA2_1.mono hlg1
 have hB2:=hB2_1.mono hlg1
 have hB3:=hB3_1.mono hlg1
 have hlg0:=hlg0_1.mono hlg1
 refine Wt 5 [1] hs rfl<|Zy hs (Yg rfl (hB2 1 _ rfl)<|Wp 1 [] hs rfl<|Zy hs (Yc rfl (fun h55=>?_) fun h55=>?_))
 ·
  refine Wp 3 [0] hs rfl ?_
  obtain ⟨x,hex⟩:∃ z,z=d1.next[k]'oM:=⟨_,rfl⟩
  obtain ⟨y,hey⟩:∃ z,z=d2.next[k]'oM:=⟨_,rfl⟩
  have hxl:=hk1.row x (by rw [hex];exact AaD _)
  refine Wu 3 [] hs rfl<|Bg [0,1,2,3,4,5,6,7,8,9,10,11] hs kR ?_
  replace hs:=hs.drew
  refine Xr [0] [1] hs rfl<|Xt 1 hs rfl (Yg rfl (hB2 1 _ rfl)<|Xr [2] [] hs rfl<|Xt 3 hs rfl (Ca hN1 k underlying35 sizeOf79 rfl rfl rfl oM fun p61 c61 hp61 hc61 hR61=>?_))
  rw [← hex] at hR61
  obtain ⟨u61,rfl,hx⟩:=hR61
  obtain ⟨A61,c61,rfl,_⟩:=id hx
  refine Xt 4 hs rfl (Yg rfl (hp61 0 _ rfl)<|Xr [5] [1] hs rfl<|Xt 6 hs rfl (Yg rfl (hB3 1 _ rfl)<|Xr [7] [] hs rfl<|Xt 8 hs rfl (Ca hN2 k underlying35 sizeOf79 rfl rfl rfl oM fun p66 c66 hp66 hc66 hR66=>?_)))
  rw [← hey] at hR66
  obtain ⟨u66,rfl,hy⟩:=hR66
  obtain ⟨A66,c66,rfl,_⟩:=id hy
  refine Xt 9 hs rfl (Yg rfl (hp66 0 _ rfl) ?_)
  have hle:=hs.le
  refine Xo 10 rfl (Sp (sint7_ok hx hy oM) hs rfl fun v1 G' _ hR hG68 hs=>?_)
  obtain rfl:=hR
  replace hlg1:=hlg1.mono hG68
  refine Ai hs hle hG68 (lSr _)<|Xr [11] [] hs rfl<|Xe (Zk [2,3,6,69] rfl<|Fk rfl (fun h69=>?_) (fun h69=>?_))
  ·
   refine Wu 4 [0] hs rfl<|As<|Zz results24 rfl ?_
   exact hs.q (congrArg Value.bool (Abi.2 fun h9=>(by have h8:=Ga.1 h9;subst h8;rw [hex,hey] at h69;simp at h69)).symm)
  refine Wu 3 [] hs rfl<|Zy hs (Ya (s:=((k+1:Nat):Int)) rfl<|Wp 1 [] hs rfl<|Zx [2,3,6] rfl ⟨k+1,_,hlg1,by omega,Kg oM oM hte (by rw [← hex,← hey];simpa using h69),rfl,rfl,hs⟩)
 refine Wp 3 [0] hs rfl ?_
 have hne:d1.next=d2.next:=Lw (k:=k) oM hl2 hte
 refine Wu 5 [0] hs rfl ?_
 obtain ⟨Gp2,hGp⟩:=hs.name
 subst hGp
 have hC1_2:=hC1
 have hN1_2:=hN1
 have hA1_2:=hA1
 have hC2_2:=hC2
 have hN2_2:=hN2
 have hA2_2:=hA2
 have hB2_2:=hB2
 have hB3_2:=hB3
 have hlg0_2:=hlg0
 have hlg1_2:=hlg1
 refine Zl [2,3,7] (fun m E w=>∃ (k:Nat) (G2:Ah),Cu Gp2 G2∧k≤d1.acc.length∧d1.acc.take k=d2.acc.take k∧m=d1.acc.length-k∧E=⟨[],[(2,Vp b2),(3,Vp b3),(7,Vi (k:Int))]⟩∧St ⟨w0,G,Bj []⟩ G2 [] w) rfl (⟨0,_,Cu.refl _,Aas _,rfl,rfl,rfl,hs⟩) fun m E w hI=>?_
 obtain ⟨k,G2,hlg2,hk9,hte,rfl,rfl,hs⟩:=hI
 have hC1:=hC1_2.mono hlg2
 have hN1:=hN1_2.mono hlg2
 have hA1:=hA1_2.mono hlg2
 have hC2:=hC2_2.mono hlg2
 have hN2:=hN2_2.mono hlg2
 have hA2:=hA2_2.mono hlg2
 have hB2:=hB2_2.mono hlg2
 have hB3:=hB3_2.mono hlg2
 have hlg0:=hlg0_2.mono hlg2
 have hlg1:=hlg1_2.mono hlg2
 refine Wt 5 [2] hs rfl<|Zy hs (Yg rfl (hB2 2 _ rfl)<|Wp 1 [] hs rfl<|Zy hs (Yc rfl (fun h74=>?_) fun h74=>?_))
 ·
  refine Wp 6 [0] hs rfl<|Bg [0,1,2,3,4,5,6,7,8,9,10] hs kR ?_
  replace hs:=hs.drew
  refine Xr [0] [2] hs rfl<|Xt 1 hs rfl (Yg rfl (hB2 2 _ rfl)<|Xr [2] [] hs rfl<|Xt 3 hs rfl (Ee k underlying30 sizeOf4 hA1 rfl rfl rfl (Dm oM) fun p80 hp80 =>Xt 4 hs rfl (Yg rfl (hp80)<|Xr [5] [2] hs rfl<|Xt 6 hs rfl (Yg rfl (hB3 2 _ rfl)<|Xr [7] [] hs rfl<|Xt 8 hs rfl (Ee k underlying30 sizeOf4 hA2 rfl rfl rfl (Dm oM) fun p85 hp85 =>Xt 9 hs rfl (Yg rfl (hp85)<|Xt 10 hs rfl (Kk underlying4 rfl rfl (fun h87=>?_) (fun h87=>?_))))))))
  ·
   refine Xe (Zk [2,3,7,87] rfl<|Wu 5 [0] hs rfl<|As<|Zz results24 rfl ?_)
   exact hs.q (congrArg Value.bool (Abi.2 fun h9=>(by have h8:=Ga.1 h9;subst h8;exact h87 rfl)).symm)
  refine Xe (Zk [2,3,7,87] rfl<|Wu 4 [] hs rfl<|Zy hs (Ya (s:=((k+1:Nat):Int)) rfl<|Wp 1 [] hs rfl<|Zx [2,3,7] rfl ⟨k+1,_,hlg2,by omega,Kg oM oM hte h87,rfl,rfl,hs⟩))
 refine Wp 3 [0] hs rfl<|Wu 4 [0] hs rfl<|As<|Zz results24 rfl ?_
 have hae:d1.acc=d2.acc:=Lw (k:=k) oM hl3 hte
 exact hs.q (congrArg Value.bool (Ga.2 (by cases d1;cases d2;simp_all)).symm)
theorem lex_drop {a b:List UInt8} {k:Nat} (ha:k<a.length) (hb:k<b.length):Tf (a.drop k) (b.drop k)=if a[k]=b[k] then Tf (a.drop (k+1)) (b.drop (k+1)) else decide (a[k]<b[k]):=by
  rw [Aaq ha,Aaq hb,Tf]
theorem u8_lt {x y:UInt8}:x<y↔(x.toNat:Int)<(y.toNat:Int):=by rw [AcC];omega
theorem u8_ne {x y:UInt8} (h:¬ (x.toNat:Int)=(y.toNat:Int)):¬ x=y:=fun e=>h (by rw [e])
theorem u8_eq {x y:UInt8} (h:(x.toNat:Int)=(y.toNat:Int)):x=y:=AcI.1 oM
theorem lV {v v2:Value} {a b:List UInt8} (ha:Bd G v a) (hb:Bd G v2 b) (hal:a.length≤1000000000) :
  Ba prog 39 [v,v2] G [] fun r _ H'=>H'=[]∧r=.bool (Lc a b):=by
 obtain ⟨Aa,ca,rfl,_⟩:=id ha
 obtain ⟨Ab,cb,rfl,_⟩:=id hb
 refine Ba.of_T [(0,_),(1,_)] func39 rfl ntmps39 sM rfl fun w0 hs=>?_
 have ha0:=ha
 have hb0:=hb
 refine Wt 11 [0] hs rfl<|Zy hs (Yc rfl (fun h10=>?_) fun h10=>?_)
 ·
  refine Wp 8 [0] hs rfl<|Zy hs (Yc rfl (fun h15=>?_) fun h15=>?_)
  ·
   refine Wp 2 [0] hs rfl<|As<|Zz results39 rfl ?_
   exact hs.q (by unfold Lc;rw [if_neg oM];exact congrArg Value.bool (decide_eq_true oM).symm)
  refine Wp 2 [0] hs rfl<|As<|Zz results39 rfl ?_
  exact hs.q (by unfold Lc;rw [if_neg oM];exact congrArg Value.bool (decide_eq_false oM).symm)
 refine Wp 8 [0,0] hs rfl ?_
 have hab:a.length=b.length:=by omega
 obtain ⟨Gp0,hGp⟩:=hs.name
 subst hGp
 have ha_0:=ha
 have hb_0:=hb
 refine Zl [0,1,5] (fun m E w=>∃ (k:Nat) (G2:Ah),Cu Gp0 G2∧k≤a.length∧Tf a b=Tf (a.drop k) (b.drop k)∧m=a.length-k∧E=⟨[],[(0,(.slice Aa a.length ca)),(1,(.slice Ab b.length cb)),(5,Vi (k:Int))]⟩∧St ⟨w0,Gp0,Bj []⟩ G2 [] w) rfl (⟨0,_,Cu.refl _,Aas _,rfl,rfl,rfl,hs⟩) fun m E w hI=>?_
 obtain ⟨k,G2,hlg0,hk9,hlx,rfl,rfl,hs⟩:=hI
 have ha:=ha_0.mono hlg0
 have hb:=hb_0.mono hlg0
 refine Wt 6 [] hs rfl<|Zy hs (Yc rfl (fun h19=>?_) fun h19=>?_)
 ·
  refine Wp 3 [0] hs rfl ?_
  obtain ⟨x,hx⟩:∃ z,z=a[k]'oM:=⟨_,rfl⟩
  obtain ⟨y,hy⟩:∃ z,z=b[k]'oM:=⟨_,rfl⟩
  have hld:=lex_drop (a:=a) (b:=b) (k:=k) oM oM
  rw [← hx,← hy] at hld
  refine Wu 3 [] hs rfl<|Bg [0,1,2,3,4,5,6,7,8] hs kR ?_
  replace hs:=hs.drew
  refine Xr [0,1] [] hs rfl<|Xt 2 hs rfl (Ek ha k underlying22 sizeOf5 rfl rfl rfl oM fun p24 hp24=>?_)
  rw [← hx] at hp24
  refine Xt 3 hs rfl (Yg rfl (hp24)<|Xr [4,5] [] hs rfl<|Xt 6 hs rfl (Ek hb k underlying22 sizeOf5 rfl rfl rfl oM fun p28 hp28=>?_))
  rw [← hy] at hp28
  refine Xt 7 hs rfl (Yg rfl (hp28)<|Xt 8 hs rfl (Qn rfl rfl rfl (fun h30=>?_) (fun h30=>?_)))
  ·
   dsimp only [Jg] at h30
   refine Xe (Zk [0,1,5,30] rfl<|Wu 2 [] hs rfl<|Bg [0,1,2,3,4,5,6,7,8,9] hs kR ?_)
   replace hs:=hs.drew
   refine Xr [0,1] [] hs rfl<|Xt 2 hs rfl (Ek ha k underlying22 sizeOf5 rfl rfl rfl oM fun p33 hp33=>?_)
   rw [← hx] at hp33
   refine Xt 3 hs rfl (Yg rfl (hp33)<|Xr [4,5] [] hs rfl<|Xt 6 hs rfl (Ek hb k underlying22 sizeOf5 rfl rfl rfl oM fun p37 hp37=>?_))
   rw [← hy] at hp37
   refine Xt 7 hs rfl (Yg rfl (hp37)<|Xt 8 hs rfl (Qn rfl rfl rfl (fun h39=>?_) (fun h39=>?_)))
   ·
    dsimp only [Jg] at h39
    refine Xr [9] [] hs rfl<|Xe (Zk [4] rfl<|As<|Zz results39 rfl ?_)
    exact hs.q (by unfold Lc;rw [if_pos hab,hlx,hld,if_neg (u8_ne oM)];exact congrArg Value.bool (decide_eq_true (u8_lt.2 oM)).symm)
   dsimp only [Jg] at h39
   refine Xr [9] [] hs rfl<|Xe (Zk [4] rfl<|As<|Zz results39 rfl ?_)
   exact hs.q (by unfold Lc;rw [if_pos hab,hlx,hld,if_neg (u8_ne oM)];exact congrArg Value.bool (decide_eq_false (fun h9=>h39 (u8_lt.1 h9))).symm)
  dsimp only [Jg] at h30
  refine Xe (Zk [0,1,5,30] rfl<|Wu 4 [] hs rfl<|Zy hs (Ya (s:=((k+1:Nat):Int)) rfl<|Wp 1 [] hs rfl<|Zx [0,1,5] rfl ⟨k+1,_,hlg0,by omega,by rw [hlx,hld,if_pos (u8_eq oM)],rfl,rfl,hs⟩))
 refine Wp 3 [0] hs rfl<|Wu 4 [0] hs rfl<|As<|Zz results39 rfl ?_
 exact hs.q (by unfold Lc;rw [if_pos hab,hlx,AbU oM];rfl)
end Go.Proofs.YtmohebpaonkaeaaGreatDoor
