/- Part 4 of the walk through the functions that the laws of package fleet call: each function's contract, without conditions but those that its statement names. -/
import Derived.Test.YtmohebpaonkaeaaGreatDoorMC
import Derived.Shelf.SlSortCmp.WholeK
import Derived.Test.YtmohebpaonkaeaaGreatDoorShelf
import Derived.Sort.OwnSortedInts
set_option maxHeartbeats 4000000
set_option maxRecDepth 10000
set_option linter.unusedVariables false
set_option linter.unusedSimpArgs false
set_option linter.unusedSectionVars false
namespace Go.Proofs.YtmohebpaonkaeaaGreatDoor
open Go Go.Ex Go.RowKit Go.Proofs.Tryz
variable {G:Ah} {x:Cx} {W:World→Prop} {E:Env} {K:Value→Prop} {d:Option Tmp} {ty:TypeId} {pos:String} {aft:Array Edge} {g:Option (Nat×Bool)} {o p:Operand} {xt yt:TypeId}
def PcR (_:Ah) (c:List Value) (p:Pc):Prop:=c=[.bool p.copy,.int .u8 (p.b.toNat:Int)]
def mJ (G:Ah) (v:Value) (l:List Pc):Prop:=Bi 2 PcR G v l
theorem mJ.mono {G G':Ah} (h:G.le G') {v:Value} {l:List Pc} (hl:mJ G v l):mJ G' v l:=Bi.mono (R:=PcR) (G:=G) (G':=G') (fun _ _ h=>h) h hl
def MvR (G:Ah) (c:List Value) (m:Mv):Prop:=∃ v,c=[Vi m.to,v]∧mJ G v m.out
def nY (G:Ah) (v:Value) (l:List Mv):Prop:=Bi 2 MvR G v l
theorem nY.mono {G G':Ah} (h:G.le G') {v:Value} {l:List Mv} (hl:nY G v l):nY G' v l:=Bi.mono (fun _ _ ⟨v,e,hn⟩=>⟨v,e,hn.mono h⟩) h hl
def MvsR (G:Ah) (c:List Value) (r:List Mv):Prop:=∃ v,c=[v]∧nY G v r
def MM (G:Ah) (v:Value) (l:List (List Mv)):Prop:=Bi 1 MvsR G v l
theorem MM.mono {G G':Ah} (h:G.le G') {v:Value} {l:List (List Mv)} (hl:MM G v l):MM G' v l:=Bi.mono (fun _ _ ⟨v,e,hn⟩=>⟨v,e,hn.mono h⟩) h hl
def Mp (G:Ah) (v:Value) (t:Tr):Prop:=∃ v1 v2 v3 v4,v=.agg #[v1,v2,v3,v4]∧Hl G v1 t.cls∧MM G v2 t.moves∧Dt G v3 t.final∧Es G v4 t.ends
theorem mJ.slice {v:Value} {l:List Pc} (h:mJ G v l):∃ A c,v=.slice A l.length c:=Bi.slice h
theorem nY.slice {v:Value} {l:List Mv} (h:nY G v l):∃ A c,v=.slice A l.length c:=Bi.slice h
theorem MM.slice {v:Value} {l:List (List Mv)} (h:MM G v l):∃ A c,v=.slice A l.length c:=Bi.slice h
theorem Hl.slice {v:Value} {l:List (List Nat)} (h:Hl G v l):∃ A c,v=.slice A l.length c:=Bi.slice h
theorem Eg {v:Value} {l:List (List UInt8)} (h:Es G v l):∃ A c,v=.slice A l.length c:=by
  obtain ⟨vs,h,_⟩:=h;obtain ⟨A,c,rfl,_⟩:=h;exact ⟨_,_,rfl⟩
theorem kL {α:Type} {p:α→Bool} {l:List α} {k:Nat} (h:k<l.length) (h1:(l.take k).any p=false) (h2:p l[k]=false):(l.take (k+1)).any p=false:=by
  rw [Aay,AaA h,List.any_append,h1];simp [h2]
theorem any_t {α:Type} {p:α→Bool} {l:List α} {k:Nat} (h:k<l.length) (h2:p l[k]=true):0≤(k:Int)↔l.any p=true:=by
  refine ⟨fun _=>List.any_eq_true.2 ⟨_,AaD h,h2⟩,fun _=>by omega⟩
theorem Xp {α:Type} {l:List α} {p:α→Bool} {z:Int} (h:0≤z↔l.any p=true) (q:Bool) (hq:q=true↔0≤z):q=l.any p:=by
  rw [AbG,hq,h]
theorem Vh {l:List (List Nat)} {k:Nat} {seen:List Nat} (h:k<l.length):partB (l.drop k) seen=(decide (¬ Gr l[k]=0) && (decide (¬ 0<Gr (Ef seen l[k])) && partB (l.drop (k+1)) (Df seen l[k]))):=by
  rw [Aaq h,partB]
theorem kM {l:List (List Nat)} {seen:List Nat}:partB (l.drop l.length) seen=decide (Gr seen=256):=by rw [List.drop_length,partB]
theorem part_ok {v:Value} {l:List (List Nat)} (hl:Hl G v l) (hn:l.length≤1000000000) :
  Ba prog 84 [v] G [] fun r _ H'=>H'=[]∧r=.bool (partB l [0,0,0,0]):=by
 obtain ⟨A,cap,rfl⟩:=hl.slice
 refine Ba.of_T [(0,_)] func84 rfl ntmps84 sM rfl fun w0 hs=>?_
 have hl0:=hl
 refine Wt 6 [0] hs rfl<|O_s (Bs hs zeroValue86 (cs:=(List.map Bb [0,0,0,0])) rfl fun b3 _ hs =>Wp 8 [0,0] hs rfl ?_)
 obtain ⟨Gp0,hGp⟩:=hs.name
 subst hGp
 have hl_0:=hl
 refine Zl [3,6,7,8] (fun m E w=>∃ (k:Nat) (seen:List Nat) (G2:Ah),Cu Gp0 G2∧k≤l.length∧partB l [0,0,0,0]=partB (l.drop k) seen∧seen.length=4∧m=l.length-k∧E=⟨[],[(3,Vp b3),(6,(.slice A l.length cap)),(7,Vi ((l.length:Nat):Int)),(8,Vi (k:Int))]⟩∧St ⟨w0,Gp0,Bj []⟩ G2 [.blk b3 86 (List.map Bb seen)] w) rfl (⟨0,[0,0,0,0],_,Cu.refl _,by omega,rfl,rfl,rfl,rfl,hs⟩) fun m E w hI=>?_
 obtain ⟨k,seen,G2,hlg0,hk,hps,hs4,rfl,rfl,hs⟩:=hI
 have hl:=hl_0.mono hlg0
 refine Wt 2 [] hs rfl<|Zy hs (Yc rfl (fun h9=>?_) fun h9=>?_)
 ·
  refine Wp 8 [0] hs rfl<|Zy hs (Ca hl k underlying28 sizeOf86 rfl rfl rfl oM fun p10 c10 hp10 hc10 hR10=>?_)
  obtain ⟨c,hce⟩:∃ c,c=l[k]'oM:=⟨_,rfl⟩
  rw [← hce] at hR10
  obtain ⟨rfl,hc4,hc64⟩:=hR10
  refine Zy hs (Db (vs:=List.map Bb c) isAgg86 sizeOf86 rfl hp10 hc10<|O_s (Bs hs zeroValue86 (cs:=(List.map Bb [0,0,0,0])) rfl fun b5 _ hs =>O_n (Sw hs rfl (vs:=(List.map Bb c)) dB dB (Dk _) fun _ hs=>Wp 4 [0] hs rfl<|Zy hs (Yk 0 rfl dB<|O_s (Sp (fV hc4) hs rfl fun v1 G' _ hR hG13 hs=>?_)))))
  obtain rfl:=hR
  replace hlg0:=hlg0.mono hG13
  refine Zy hs (Yc rfl (fun h14=>?_) fun h14=>?_)
  ·
   refine Wp 13 [0,0] hs rfl<|As<|Zz results84 rfl ?_
   exact hs.q (congrArg Value.bool (by rw [hps,Vh (show k<l.length by omega),← hce];rw [decide_eq_false oM];rfl))
  refine Wp 1 [] hs rfl<|Zg hs rfl (Yk 1 rfl dB<|Zg hs rfl (Yk 0 rfl dB<|Dh 15 rfl rfl (Sp (Jl hs4 hc4) hs rfl fun v2 G' _ hR hG18 hs=>?_)))
  obtain rfl:=hR
  refine Dh 15 rfl rfl (Sp (fV (Kw hs4 hc4)) hs rfl fun v3 G' _ hR hG19 hs=>?_)
  obtain rfl:=hR
  replace hlg0:=hlg0.mono (hG18.trans hG19)
  refine Zg hs rfl (Yc rfl (fun h20=>?_) fun h20=>?_)
  ·
   refine Wp 7 [0,0] hs rfl<|As<|Zz results84 rfl ?_
   exact hs.q (congrArg Value.bool (by rw [hps,Vh (show k<l.length by omega),← hce];rw [decide_eq_true (show ¬ Gr c=0 by omega),decide_eq_false (show ¬ ¬ 0<Gr (Ef seen c) by omega)];rfl))
  refine Wp 5 [0] hs rfl<|Zy hs (Yk 1 rfl dB<|Zy hs (Yk 0 rfl dB<|O_s (Sp (Gf hs4 hc4) hs rfl fun v4 G' _ hR hG24 hs=>?_)))
  obtain rfl:=hR
  have hu4:=Kx hs4 hc4
  refine O_n (Sw hs.f1 rfl (vs:=(List.map Bb (Df seen c))) dB dB (Dk _) fun _ hs=>Wp 2 [0] hs rfl<|Zy hs (Ya (s:=((k+1:Nat):Int)) rfl<|Wp 1 [] hs rfl ?_))
  replace hlg0:=hlg0.mono hG24
  refine Zx [3,6,7,8] rfl ⟨k+1,Df seen c,_,hlg0,by omega,by rw [hps,Vh (show k<l.length by omega),← hce,decide_eq_true (show ¬ Gr c=0 by omega),decide_eq_true (show ¬ 0<Gr (Ef seen c) by omega)];rfl,hu4,rfl,rfl,hs.wk [_]⟩
 refine Wp 4 [0] hs rfl<|Wu 2 [] hs rfl<|Zy hs (Yk 0 rfl dB<|O_s (Sp (fV hs4) hs rfl fun v5 G' _ hR hG27 hs=>?_))
 obtain rfl:=hR
 refine Zy hs (Yc rfl (fun h28=>?_) fun h28=>?_)
 ·
  refine Wp 2 [0] hs rfl<|As<|Zz results84 rfl ?_
  obtain rfl:k=l.length:=by omega
  exact hs.q (congrArg Value.bool (by rw [hps,kM];first|exact (decide_eq_true oM).symm|exact (decide_eq_false oM).symm))
 refine Wp 2 [0] hs rfl<|As<|Zz results84 rfl ?_
 obtain rfl:k=l.length:=by omega
 exact hs.q (congrArg Value.bool (by rw [hps,kM];first|exact (decide_eq_true oM).symm|exact (decide_eq_false oM).symm))
theorem ifp_raw {G : Ah} {v : Value} {l : List Pc} {p : Pc → Bool} {gf : Nat} {lb : List Value} {fnn : Func} (hl : mJ G v l) (hn : l.length ≤ 1000000000) (hfn : prog.funcs[gf]? = some fnn) (hbd : fnn.body.isSome = true) (hnm : (fnn.name == "runtime.NumGoroutine") = false) (hg : ∀ (G' : Ah) (c : List Value) (a : Pc), a ∈ l → G.le G' → PcR G' c a → Ba prog gf (.agg c.toArray :: lb) G' [] fun r _ H' => H' = [] ∧ r = .bool (p a)) :
  Ba prog 136 [v,.func (.func gf) #[] lb.toArray] G [] fun r _ H'=>H'=[]∧∃ z:Int,r=Vi z∧(0≤z↔l.any p=true):=by
 obtain ⟨A,cap,rfl⟩:=hl.slice
 refine Ba.of_T [(0,_),(1,_)] func136 rfl ntmps136 sM rfl fun w0 hs=>?_
 have hl0:=hl
 refine Wt 11 [0,0] hs rfl ?_
 obtain ⟨Gp0,hGp⟩:=hs.name
 subst hGp
 have hl_0:=hl
 refine Zl [0,1,7,8] (fun m E w=>∃ (k:Nat) (G2:Ah),Cu Gp0 G2∧k≤l.length∧(l.take k).any p=false∧m=l.length-k∧E=⟨[],[(0,(.slice A l.length cap)),(1,.func (.func gf) #[] lb.toArray),(7,Vi ((l.length:Nat):Int)),(8,Vi (k:Int))]⟩∧St ⟨w0,Gp0,Bj []⟩ G2 [] w) rfl (⟨0,_,Cu.refl _,by omega,by simp,rfl,rfl,hs⟩) fun m E w hI=>?_
 obtain ⟨k,G2,hlg0,hk,hany,rfl,rfl,hs⟩:=hI
 have hl:=hl_0.mono hlg0
 refine Wt 2 [] hs rfl<|Zy hs (Yc rfl (fun h9=>?_) fun h9=>?_)
 ·
  refine Wp 16 [0,0] hs rfl<|Zy hs (Ca hl k underlying72 sizeOf76 rfl rfl rfl oM fun p14 c14 hp14 hc14 hR14 =>Zy hs (Db isAgg76 sizeOf76 rfl hp14 hc14 ?_))
  obtain ⟨q,hq⟩:∃ q,p (l[k]'oM)=q:=⟨_,rfl⟩
  refine O_s (Jb (args:=[_]) (lb:=lb) (H1:=[]) hs rfl rfl hfn hbd hnm (hg _ _ _ (AaD (show k<l.length by omega)) hs.le hR14) fun v1 G' H' _ hR hG16 hs=>?_)
  obtain ⟨rfl,rfl⟩:=hR
  replace hs:=hs.n rfl
  rw [hq]
  replace hlg0:=hlg0.mono hG16
  cases q
  ·
   refine Wp 4 [0] hs rfl<|Zy hs (Kn rfl rfl rfl oM<|Wp 1 [] hs rfl<|Zx [0,1,7,8] rfl ⟨k+1,_,hlg0,by omega,kL oM hany hq,rfl,rfl,hs⟩)
  refine Wp 7 [0,0] hs rfl<|As<|Zz results136 rfl ?_
  exact hs.q ⟨_,rfl,any_t oM hq⟩
 refine Wp 4 [0] hs rfl<|Wu 4 [0] hs rfl<|As<|Zz results136 rfl ?_
 obtain rfl:k=l.length:=by omega
 rw [Aaj] at hany
 exact hs.q ⟨_,rfl,by rw [hany];simp⟩
theorem ifm_raw {G : Ah} {v : Value} {l : List Mv} {p : Mv → Bool} {gf : Nat} {lb : List Value} {fnn : Func} (hl : nY G v l) (hn : l.length ≤ 1000000000) (hfn : prog.funcs[gf]? = some fnn) (hbd : fnn.body.isSome = true) (hnm : (fnn.name == "runtime.NumGoroutine") = false) (hg : ∀ (G' : Ah) (c : List Value) (a : Mv), a ∈ l → G.le G' → MvR G' c a → Ba prog gf (.agg c.toArray :: lb) G' [] fun r _ H' => H' = [] ∧ r = .bool (p a)) :
  Ba prog 137 [v,.func (.func gf) #[] lb.toArray] G [] fun r _ H'=>H'=[]∧∃ z:Int,r=Vi z∧(0≤z↔l.any p=true):=by
 obtain ⟨A,cap,rfl⟩:=hl.slice
 refine Ba.of_T [(0,_),(1,_)] func137 rfl ntmps137 sM rfl fun w0 hs=>?_
 have hl0:=hl
 refine Wt 11 [0,0] hs rfl ?_
 obtain ⟨Gp0,hGp⟩:=hs.name
 subst hGp
 have hl_0:=hl
 refine Zl [0,1,7,8] (fun m E w=>∃ (k:Nat) (G2:Ah),Cu Gp0 G2∧k≤l.length∧(l.take k).any p=false∧m=l.length-k∧E=⟨[],[(0,(.slice A l.length cap)),(1,.func (.func gf) #[] lb.toArray),(7,Vi ((l.length:Nat):Int)),(8,Vi (k:Int))]⟩∧St ⟨w0,Gp0,Bj []⟩ G2 [] w) rfl (⟨0,_,Cu.refl _,by omega,by simp,rfl,rfl,hs⟩) fun m E w hI=>?_
 obtain ⟨k,G2,hlg0,hk,hany,rfl,rfl,hs⟩:=hI
 have hl:=hl_0.mono hlg0
 refine Wt 2 [] hs rfl<|Zy hs (Yc rfl (fun h9=>?_) fun h9=>?_)
 ·
  refine Wp 16 [0,0] hs rfl<|Zy hs (Ca hl k underlying71 sizeOf74 rfl rfl rfl oM fun p14 c14 hp14 hc14 hR14 =>Zy hs (Db isAgg74 sizeOf74 rfl hp14 hc14 ?_))
  obtain ⟨q,hq⟩:∃ q,p (l[k]'oM)=q:=⟨_,rfl⟩
  refine O_s (Jb (args:=[_]) (lb:=lb) (H1:=[]) hs rfl rfl hfn hbd hnm (hg _ _ _ (AaD (show k<l.length by omega)) hs.le hR14) fun v1 G' H' _ hR hG16 hs=>?_)
  obtain ⟨rfl,rfl⟩:=hR
  replace hs:=hs.n rfl
  rw [hq]
  replace hlg0:=hlg0.mono hG16
  cases q
  ·
   refine Wp 4 [0] hs rfl<|Zy hs (Kn rfl rfl rfl oM<|Wp 1 [] hs rfl<|Zx [0,1,7,8] rfl ⟨k+1,_,hlg0,by omega,kL oM hany hq,rfl,rfl,hs⟩)
  refine Wp 7 [0,0] hs rfl<|As<|Zz results137 rfl ?_
  exact hs.q ⟨_,rfl,any_t oM hq⟩
 refine Wp 4 [0] hs rfl<|Wu 4 [0] hs rfl<|As<|Zz results137 rfl ?_
 obtain rfl:k=l.length:=by omega
 rw [Aaj] at hany
 exact hs.q ⟨_,rfl,by rw [hany];simp⟩
theorem zO {G : Ah} {v : Value} {l : List Pc} {p : Pc → Bool} {gf : Nat} {lb : List Value} {fnn : Func} (hl : mJ G v l) (hn : l.length ≤ 1000000000) (hfn : prog.funcs[gf]? = some fnn) (hbd : fnn.body.isSome = true) (hnm : (fnn.name == "runtime.NumGoroutine") = false) (hg : ∀ (G' : Ah) (c : List Value) (a : Pc), a ∈ l → G.le G' → PcR G' c a → Ba prog gf (.agg c.toArray :: lb) G' [] fun r _ H' => H' = [] ∧ r = .bool (p a)) :
  Ba prog 86 [v,.func (.func gf) #[] lb.toArray] G [] fun r _ H'=>H'=[]∧r=.bool (l.any p):=by
 obtain ⟨A,cap,rfl⟩:=hl.slice
 refine Ba.of_T [(0,_),(1,_)] func86 rfl ntmps86 sM rfl fun w0 hs=>?_
 have hl0:=hl
 refine Wt 8 [0] hs rfl<|O_s (Sp (ifp_raw hl hn hfn hbd hnm (fun G' c a ha hG hr=>hg G' c a ha (Ah.le.trans hs.le hG) hr)) hs rfl fun v1 G' _ hR hG7 hs=>?_)
 obtain ⟨z,rfl,hz⟩:=hR
 refine Zy hs (Yc rfl (fun h8=>?_) fun h8=>?_)
 ·
  refine Wp 2 [0] hs rfl<|As<|Zz results86 rfl ?_
  exact hs.q (congrArg Value.bool (Xp hz true Z37))
 refine Wp 2 [0] hs rfl<|As<|Zz results86 rfl ?_
 exact hs.q (congrArg Value.bool (Xp hz false Z37))
theorem cfm_ok {G : Ah} {v : Value} {l : List Mv} {p : Mv → Bool} {gf : Nat} {lb : List Value} {fnn : Func} (hl : nY G v l) (hn : l.length ≤ 1000000000) (hfn : prog.funcs[gf]? = some fnn) (hbd : fnn.body.isSome = true) (hnm : (fnn.name == "runtime.NumGoroutine") = false) (hg : ∀ (G' : Ah) (c : List Value) (a : Mv), a ∈ l → G.le G' → MvR G' c a → Ba prog gf (.agg c.toArray :: lb) G' [] fun r _ H' => H' = [] ∧ r = .bool (p a)) :
  Ba prog 88 [v,.func (.func gf) #[] lb.toArray] G [] fun r _ H'=>H'=[]∧r=.bool (l.any p):=by
 obtain ⟨A,cap,rfl⟩:=hl.slice
 refine Ba.of_T [(0,_),(1,_)] func88 rfl ntmps88 sM rfl fun w0 hs=>?_
 have hl0:=hl
 refine Wt 8 [0] hs rfl<|O_s (Sp (ifm_raw hl hn hfn hbd hnm (fun G' c a ha hG hr=>hg G' c a ha (Ah.le.trans hs.le hG) hr)) hs rfl fun v1 G' _ hR hG7 hs=>?_)
 obtain ⟨z,rfl,hz⟩:=hR
 refine Zy hs (Yc rfl (fun h8=>?_) fun h8=>?_)
 ·
  refine Wp 2 [0] hs rfl<|As<|Zz results88 rfl ?_
  exact hs.q (congrArg Value.bool (Xp hz true Z37))
 refine Wp 2 [0] hs rfl<|As<|Zz results88 rfl ?_
 exact hs.q (congrArg Value.bool (Xp hz false Z37))
theorem pcB_t {b:UInt8} (h:¬ (b.toNat:Int)=0):uB ⟨true,b⟩=false:=by
  have:¬ b=0:=fun e=>h (by rw [e];rfl)
  simp [uB,this]
theorem pcB_e {b:UInt8} (h:(b.toNat:Int)=0):uB ⟨true,b⟩=true:=by
  have:b=0:=AcI.1 (by show b.toNat=0;omega)
  simp [uB,this]
theorem mvB_bad {n:Nat} {m:Mv} (h:m.to < -1∨(n:Int)≤m.to∨8<m.out.length∨(m.to<0∧0<m.out.length)):nI n m=false:=by
  rw [Abi];intro e;have h2:=Cn7.mvB_iff.1 e;omega
theorem zP {n:Nat} {m:Mv} (h1 : -1≤m.to) (h2:m.to<(n:Int)) (h3:m.out.length≤8) (h4:0≤m.to∨m.out.length≤0):nI n m=m.out.all uB:=by
  rw [AbG,Cn7.mvB_iff];exact ⟨fun h=>h.2.2.2.2,fun h=>⟨h1,h2,h3,h4,h⟩⟩
theorem Xq {α:Type} {p:α→Bool}:∀ l:List α,(l.any fun x=>!p x)=!l.all p
  | []=>rfl
  | a::l=>by rw [List.any_cons,List.all_cons,Xq l];cases p a<;>rfl
theorem rU {p:Pc} :
  Ba prog 87 [.agg #[.bool p.copy,.int .u8 (p.b.toNat:Int)]] G [] fun r _ H'=>H'=[]∧r=.bool (!uB p):=by
 obtain ⟨q,b⟩:=p
 refine Ba.of_T [(0,_)] func87 rfl ntmps87 sM rfl fun w0 hs =>Wt 2 [] hs rfl<|O_s (Sb hs rfl fun b1 _ hs=>Wp 6 [0,0,0] hs rfl ?_)
 cases q
 ·
  refine Wp 7 [0] hs rfl<|As<|Zz results87 rfl ?_
  exact hs.q (congrArg Value.bool Z30)
 refine Wp 3 [1,0] hs rfl<|Zg hs rfl (Yc rfl (fun h8=>?_) fun h8=>?_)
 ·
  refine Wp 3 [0] hs rfl<|As<|Zz results87 rfl ?_
  exact hs.q (congrArg Value.bool Z30)
 refine Wp 3 [0] hs rfl<|As<|Zz results87 rfl ?_
 exact hs.q (congrArg Value.bool Z30)
theorem bad1_ok {c:List Value} {m:Mv} {n bn:Nat} (hm:MvR G c m) (hbn:Cg G bn [Vi (n:Int)]) :
  Ba prog 85 [.agg c.toArray,Vp bn] G [] fun r _ H'=>H'=[]∧r=.bool (!nI n m):=by
 obtain ⟨to,l⟩:=m
 obtain ⟨v,rfl,hl⟩:=hm
 obtain ⟨A,cap,rfl⟩:=hl.slice
 replace hl:mJ G _ l:=hl
 refine Ba.of_T [(0,_),(1,_)] func85 rfl ntmps85 sM rfl fun w0 hs=>?_
 have hl0:=hl
 have hbn0:=hbn
 refine Wt 2 [] hs rfl<|O_s (Sb hs rfl fun b2 _ hs=>Wp 6 [0,0,0] hs rfl<|Zy hs (Yc rfl (fun h6=>?_) fun h6=>?_))
 ·
  refine Wp 17 [] hs rfl<|Fs 23 rfl rfl<|Fs 23 rfl rfl<|Fs 23 rfl rfl<|Fs 23 rfl rfl<|Wp 9 [1,3] hs rfl<|As<|Zz results85 rfl ?_
  exact hs.q (congrArg Value.bool Z39)
 refine Wp 3 [0,0] hs rfl<|Zg hs rfl (Yg rfl (hbn 0 _ rfl)<|Zg hs rfl (Yc rfl (fun h11=>?_) fun h11=>?_))
 ·
  refine Wp 12 [] hs rfl<|Fs 23 rfl rfl<|Fs 23 rfl rfl<|Fs 23 rfl rfl<|Fs 23 rfl rfl<|Wp 9 [1,3] hs rfl<|As<|Zz results85 rfl ?_
  exact hs.q (congrArg Value.bool Z39)
 refine Wp 5 [1,0] hs rfl<|Zg hs rfl (Yc rfl (fun h17=>?_) fun h17=>?_)
 ·
  refine Wp 6 [] hs rfl<|Fs 23 rfl rfl<|Fs 23 rfl rfl<|Fs 23 rfl rfl<|Fs 23 rfl rfl<|Wp 9 [1,3] hs rfl<|As<|Zz results85 rfl ?_
  exact hs.q (congrArg Value.bool Z39)
 refine Wp 4 [0,0] hs rfl<|Zg hs rfl (Yc rfl (fun h22=>?_) fun h22=>?_)
 ·
  refine Wp 4 [1,0] hs rfl<|Zg hs rfl (Yc rfl (fun h27=>?_) fun h27=>?_)
  ·
   refine Wp 9 [1,3] hs rfl<|As<|Zz results85 rfl ?_
   exact hs.q (congrArg Value.bool Z39)
  refine Wp 5 [1,0] hs rfl<|Dh 30 rfl rfl (Sp (zO (p:=fun x=>!uB x) (lb:=[]) hl oM func87 rfl kR (fun _ _ a _ _ hr=>by rw [show _=_ from hr];exact rU)) hs rfl fun v1 G' _ hR hG33 hs=>?_)
  obtain rfl:=hR
  refine Wp 3 [1,3] hs rfl<|As<|Zz results85 rfl ?_
  exact hs.q (congrArg Value.bool Z7)
 refine Wp 10 [1,0] hs rfl<|Dh 30 rfl rfl (Sp (zO (p:=fun x=>!uB x) (lb:=[]) hl oM func87 rfl kR (fun _ _ a _ _ hr=>by rw [show _=_ from hr];exact rU)) hs rfl fun v2 G' _ hR hG33 hs=>?_)
 obtain rfl:=hR
 refine Wp 3 [1,3] hs rfl<|As<|Zz results85 rfl ?_
 exact hs.q (congrArg Value.bool Z7)
theorem Wi {P:Nat→Prop} {k:Nat} (h:∀ s,s<k→P s) (hk:P k) (s:Nat) (hs:s<k+1):P s:=by
  rcases AaM s k with h9 | h9
  · exact h s h9
  · rw [show s=k by omega];exact hk
def bD (t:Tr) (s:Nat):Bool:=decide ((t.moves.getD s []).length=t.cls.length) && (decide ((t.ends.getD s []).length≤8) && ((t.final.getD s false || decide ((t.ends.getD s []).length≤0)) && (t.moves.getD s []).all (nI t.moves.length)))
theorem bE (t:Tr):Gh t=true↔1≤t.moves.length∧t.moves.length≤64∧t.final.length=t.moves.length∧t.ends.length=t.moves.length∧t.cls.length≤256∧partB t.cls [0,0,0,0]=true∧∀ s,s<t.moves.length→bD t s=true:=by
  unfold Gh bD
  simp only [Aah,decide_eq_true_eq,AbD,Aae]
theorem Iz {t:Tr} (h:¬ (1≤t.moves.length∧t.moves.length≤64∧t.final.length=t.moves.length∧t.ends.length=t.moves.length∧t.cls.length≤256∧partB t.cls [0,0,0,0]=true∧∀ s,s<t.moves.length→bD t s=true)):Gh t=false:=by
  rw [Abi];exact fun e=>h ((bE t).1 e)
theorem Lf {t:Tr} {k:Nat} (h:k<t.moves.length) (h2:bD t k=false):Gh t=false:=Iz fun ⟨_,_,_,_,_,_,h3⟩=>by rw [h3 k h] at h2;cases h2
theorem Pa {t:Tr} {k:Nat} {r:List Mv} {e:List UInt8} {f:Bool} (h1:t.moves.getD k []=r) (h2:t.ends.getD k []=e) (h3:t.final.getD k false=f):bD t k=(decide (r.length=t.cls.length) && (decide (e.length≤8) && ((f || decide (e.length≤0)) && r.all (nI t.moves.length)))):=by
  unfold bD;rw [h1,h2,h3]
theorem part_eq {v:Value} {l:List (List Nat)} (q:Bool) (hq:partB l [0,0,0,0]=q) (hl:Hl G v l) (hn:l.length≤1000000000) :
    Ba prog 84 [v] G [] fun r _ H'=>H'=[]∧r=.bool q:=hq▸part_ok hl hn
theorem zQ {v:Value} {l:List Mv} {n bn:Nat} (q:Bool) (hq:l.any (fun x=>!nI n x)=q) (hl:nY G v l) (hn:l.length≤1000000000) (hbn:Cg G bn [Vi (n:Int)]) :
    Ba prog 88 [v,.func (.func 85) #[] #[Vp bn]] G [] fun r _ H'=>H'=[]∧r=.bool q:=hq▸cfm_ok (lb:=[Vp bn]) hl hn func85 rfl kR (fun _ _ a ha hG hr=>bad1_ok hr (hbn.mono hG))
theorem Ls {v:Value} {t:Tr} (ht:Mp G v t) :
  Ba prog 29 [v] G [] fun r _ H'=>H'=[]∧r=.bool (Gh t):=by
 obtain ⟨v1,v2,v3,v4,rfl,hTc,hTm,hTf,hTe⟩:=ht
 obtain ⟨A1,c1,rfl⟩:=hTc.slice
 obtain ⟨A2,c2,rfl⟩:=hTm.slice
 obtain ⟨A3,c3,rfl,_⟩:=id hTf
 obtain ⟨A4,c4,rfl⟩:=Eg hTe
 obtain ⟨pq,hpq⟩:∃ q,partB t.cls [0,0,0,0]=q:=⟨_,rfl⟩
 refine Ba.of_T [(0,_)] func29 rfl ntmps29 sM rfl fun w0 hs=>?_
 have hTc0:=hTc
 have hTm0:=hTm
 have hTf0:=hTf
 have hTe0:=hTe
 refine Wt 2 [] hs rfl<|O_s (Sb hs rfl fun b1 _ hs=>Wp 7 [0,1,0] hs rfl<|O_s (Sa hs zeroValue3 rfl fun b3 _ hs=>O_n (Sd hs rfl rfl fun _ hs=>Wp 5 [0,0] hs rfl<|Zy hs (Yc rfl (fun h11=>?_) fun h11=>?_))))
 ·
  refine Wp 36 [3,1,3,41,0] hs rfl<|As<|Zz results29 rfl ?_
  exact hs.q (congrArg Value.bool (Iz oM).symm)
 refine Wp 2 [0] hs rfl<|Zg hs rfl (Yc rfl (fun h14=>?_) fun h14=>?_)
 ·
  refine Wp 33 [3,1,3,41,0] hs rfl<|As<|Zz results29 rfl ?_
  exact hs.q (congrArg Value.bool (Iz oM).symm)
 refine Wp 6 [2,1,0] hs rfl<|Zg hs rfl (Yc rfl (fun h21=>?_) fun h21=>?_)
 ·
  refine Wp 26 [3,1,3,41,0] hs rfl<|As<|Zz results29 rfl ?_
  exact hs.q (congrArg Value.bool (Iz oM).symm)
 refine Wp 6 [3,1,0] hs rfl<|Zg hs rfl (Yc rfl (fun h28=>?_) fun h28=>?_)
 ·
  refine Wp 19 [3,1,3,41,0] hs rfl<|As<|Zz results29 rfl ?_
  exact hs.q (congrArg Value.bool (Iz oM).symm)
 refine Wp 5 [0,1] hs rfl<|Zg hs rfl (Yc rfl (fun h34=>?_) fun h34=>?_)
 ·
  refine Wp 13 [3,1,3,41,0] hs rfl<|As<|Zz results29 rfl ?_
  exact hs.q (congrArg Value.bool (Iz oM).symm)
 refine Wp 4 [0,1] hs rfl<|Dh 36 rfl rfl (Sp (part_eq pq hpq hTc oM) hs rfl fun v1 G' _ hR hG39 hs=>?_)
 obtain rfl:=hR
 replace hTc:=hTc.mono hG39
 replace hTm:=hTm.mono hG39
 replace hTf:=hTf.mono hG39
 replace hTe:=hTe.mono hG39
 cases hpqs:pq
 ·
  refine Wp 8 [3,1,3,41,0] hs rfl<|As<|Zz results29 rfl ?_
  exact hs.q (congrArg Value.bool (Iz (by rw [hpq,hpqs];simp)).symm)
 refine Wp 7 [3,1,3,41] hs rfl<|Zy hs (He (vs:=[_]) rfl<|Wp 10 [0,1,1,0] hs rfl ?_)
 obtain ⟨_,hGbhB3,hB3,hs⟩:=hs.fixBlk (fun k _=>Gb k)
 replace hB3:Cg _ b3 _:=hB3
 obtain ⟨Gp0,hGp⟩:=hs.name
 subst hGp
 replace hTc:=hTc.mono hGbhB3
 have hTc_0:=hTc
 replace hTm:=hTm.mono hGbhB3
 have hTm_0:=hTm
 replace hTf:=hTf.mono hGbhB3
 have hTf_0:=hTf
 replace hTe:=hTe.mono hGbhB3
 have hTe_0:=hTe
 have hB3_0:=hB3
 refine Zl [1,4,44,45,46] (fun m E w=>∃ (k:Nat) (G2:Ah),Cu Gp0 G2∧k≤t.moves.length∧(∀ s,s<k→bD t s=true)∧m=t.moves.length-k∧E=⟨[],[(1,Vp b1),(4,.func (.func 85) #[] #[Vp b3]),(44,.slice A2 t.moves.length c2),(45,Vi ((t.moves.length:Nat):Int)),(46,Vi (k:Int))]⟩∧St ⟨w0,G,Bj []⟩ G2 [.blk b1 33 [.slice A1 t.cls.length c1,.slice A2 t.moves.length c2,.slice A3 t.final.length c3,.slice A4 t.ends.length c4]] w) rfl (⟨0,_,Cu.refl _,by omega,fun s h=>absurd h oM,rfl,rfl,hs⟩) fun m E w hI=>?_
 obtain ⟨k,G2,hlg0,hk,hrk,rfl,rfl,hs⟩:=hI
 have hTc:=hTc_0.mono hlg0
 have hTm:=hTm_0.mono hlg0
 have hTf:=hTf_0.mono hlg0
 have hTe:=hTe_0.mono hlg0
 have hB3:=hB3_0.mono hlg0
 refine Wt 2 [] hs rfl<|Zy hs (Yc rfl (fun h47=>?_) fun h47=>?_)
 ·
  refine Wp 4 [0] hs rfl ?_
  obtain ⟨rr,herr⟩:∃ q,t.moves[k]'oM=q:=⟨_,rfl⟩
  obtain ⟨ee,hee⟩:∃ q,t.ends[k]'oM=q:=⟨_,rfl⟩
  obtain ⟨ff,hff⟩:∃ q,t.final[k]'oM=q:=⟨_,rfl⟩
  obtain ⟨q86,hq86⟩:∃ q,rr.any (fun x=>!nI t.moves.length x)=q:=⟨_,rfl⟩
  refine Wu 5 [] hs rfl<|Zy hs (Ca hTm k underlying29 sizeOf71 rfl rfl rfl oM fun p49 c49 hp49 hc49 hR49=>?_)
  rw [herr] at hR49
  obtain ⟨u49,rfl,hrr⟩:=hR49
  obtain ⟨A49,c49,rfl⟩:=hrr.slice
  refine Zy hs (Yg rfl (hp49 0 _ rfl)<|Wp 10 [0,0,0] hs rfl<|Zy hs (Yc rfl (fun h56=>?_) fun h56=>?_))
  ·
   refine Wp 17 [] hs rfl<|Fs 73 rfl rfl<|Fs 73 rfl rfl<|Fs 73 rfl rfl<|Fs 73 rfl rfl<|Fs 73 rfl rfl<|Fs 73 rfl rfl<|Fs 73 rfl rfl<|Wp 13 [6,1,4,44,45,46,87,0] hs rfl<|As<|Zz results29 rfl ?_
   exact hs.q (congrArg Value.bool (Lf (show k<t.moves.length by omega) (by rw [Pa (k:=k) (r:=rr) (e:=ee) (f:=_) Z31 Z33 Z32];rw [decide_eq_false (show ¬ rr.length=t.cls.length by omega)];rfl)).symm)
  refine Wp 4 [3,0] hs rfl<|Zg hs rfl (Qp hTe k underlying31 sizeOf22 rfl rfl rfl oM fun p61 u61 hp61 hu61=>?_)
  obtain ⟨A61,c61,rfl,_⟩:=id hu61
  rw [hee] at hu61 hp61
  refine Zg hs rfl (Yg rfl (hp61)<|Wp 1 [] hs rfl<|Zg hs rfl (Yc rfl (fun h64=>?_) fun h64=>?_))
  ·
   refine Wp 9 [] hs rfl<|Fs 73 rfl rfl<|Fs 73 rfl rfl<|Fs 73 rfl rfl<|Fs 73 rfl rfl<|Fs 73 rfl rfl<|Fs 73 rfl rfl<|Fs 73 rfl rfl<|Wp 13 [6,1,4,44,45,46,87,0] hs rfl<|As<|Zz results29 rfl ?_
   exact hs.q (congrArg Value.bool (Lf (show k<t.moves.length by omega) (by rw [Pa (k:=k) (r:=rr) (e:=ee) (f:=_) Z31 Z33 Z32];rw [decide_eq_true (show rr.length=t.cls.length by omega)];rw [decide_eq_false (show ¬ ee.length≤8 by omega)];rfl)).symm)
  refine Wp 5 [2,0] hs rfl<|Zg hs rfl (Ee k underlying30 sizeOf4 hTf rfl rfl rfl (Dm oM) fun p70 hp70=>?_)
  rw [hff] at hp70
  refine Zg hs rfl (Yg rfl (hp70) ?_)
  cases ff
  ·
   refine Wp 5 [3,0] hs rfl<|Zg hs rfl (Qp hTe k underlying31 sizeOf22 rfl rfl rfl oM fun p77 u77 hp77 hu77=>?_)
   obtain ⟨A77,c77,rfl,_⟩:=id hu77
   rw [hee] at hu77 hp77
   refine Zg hs rfl (Yg rfl (hp77)<|Wp 1 [] hs rfl<|Zg hs rfl (Yc rfl (fun h80=>?_) fun h80=>?_))
   ·
    refine Wp 13 [6,1,4,44,45,46,87,0] hs rfl<|As<|Zz results29 rfl ?_
    exact hs.q (congrArg Value.bool (Lf (show k<t.moves.length by omega) (by rw [Pa (k:=k) (r:=rr) (e:=ee) (f:=_) Z31 Z33 Z32];rw [decide_eq_true (show rr.length=t.cls.length by omega)];rw [decide_eq_true (show ee.length≤8 by omega)];rw [decide_eq_false (show ¬ ee.length≤0 by omega)];rfl)).symm)
   refine Wp 5 [] hs rfl<|Dh 83 rfl rfl (Sp (zQ q86 hq86 hrr oM hB3) hs rfl fun v2 G' _ hR hG86 hs=>?_)
   obtain rfl:=hR
   replace hlg0:=hlg0.mono hG86
   cases hqs:q86
   ·
    refine Wp 5 [6,1,4,44,45,46,87] hs rfl<|Zy hs (Ya (s:=((k+1:Nat):Int)) rfl<|Wp 1 [] hs rfl<|Zx [1,4,44,45,46] rfl ⟨k+1,_,hlg0,by omega,Wi hrk Z0,rfl,rfl,hs⟩)
   refine Wp 7 [6,1,4,44,45,46,87,0] hs rfl<|As<|Zz results29 rfl ?_
   exact hs.q (congrArg Value.bool (Lf (show k<t.moves.length by omega) Z0).symm)
  refine Wp 14 [] hs rfl<|Dh 83 rfl rfl (Sp (zQ q86 hq86 hrr oM hB3) hs rfl fun v3 G' _ hR hG86 hs=>?_)
  obtain rfl:=hR
  replace hlg0:=hlg0.mono hG86
  cases hqs:q86
  ·
   refine Wp 5 [6,1,4,44,45,46,87] hs rfl<|Zy hs (Ya (s:=((k+1:Nat):Int)) rfl<|Wp 1 [] hs rfl<|Zx [1,4,44,45,46] rfl ⟨k+1,_,hlg0,by omega,Wi hrk Z1,rfl,rfl,hs⟩)
  refine Wp 7 [6,1,4,44,45,46,87,0] hs rfl<|As<|Zz results29 rfl ?_
  exact hs.q (congrArg Value.bool (Lf (show k<t.moves.length by omega) Z1).symm)
 refine Wp 4 [0] hs rfl<|Wu 4 [0] hs rfl<|As<|Zz results29 rfl ?_
 obtain rfl:k=t.moves.length:=by omega
 exact hs.q (congrArg Value.bool ((bE t).2 ⟨by omega,by omega,by omega,by omega,by omega,by rw [hpq,hpqs],hrk⟩).symm)
def zR (l:List Pc) (x:UInt8) (k:Nat):List UInt8:=Gt (l.take k) x++List.replicate (l.length-k) 0
theorem Lt (l:List Pc) (x:UInt8):(Gt l x).length=l.length:=by unfold Gt;rw [AaC]
theorem kN (l:List Pc) (x:UInt8):zR l x 0=List.replicate l.length 0:=by unfold zR;simp [Gt]
theorem kO (l:List Pc) (x:UInt8):zR l x l.length=Gt l x:=by unfold zR;simp
theorem bG {l:List Pc} {x y z:UInt8} {k:Nat} (h:k<l.length) (hz:(if l[k].copy=true then x else l[k].b)=z):((zR l x k).set k y).set k z=zR l x (k+1):=by
  unfold zR
  rw [List.set_set,No (by rw [Lt,Aag];omega) h,← hz,Aay,AaA h];unfold Gt;rw [AaU];rfl
theorem eJ {l:List Pc} {x z:UInt8} {k:Nat} (h:k<l.length) (hz:(if l[k].copy=true then x else l[k].b)=z):(zR l x k).set k z=zR l x (k+1):=by
  have:=bG (y:=0) h hz;rw [List.set_set] at this;exact this
theorem Tj (n:Nat):List.replicate n (Value.int .u8 0)=(List.replicate n (0:UInt8)).map Dy:=by rw [Abk];rfl
theorem gC {v:Value} {l:List Pc} {b:UInt8} (hl:mJ G v l) (hn:l.length≤1000000000) :
  Ba prog 46 [v,.int .u8 (b.toNat:Int)] G [] fun r G' H'=>H'=[]∧Bd G' r (Gt l b):=by
 obtain ⟨A,cap,rfl⟩:=hl.slice
 refine Ba.of_T [(0,_),(1,_)] func46 rfl ntmps46 sM rfl fun w0 hs=>?_
 have hl0:=hl
 refine Wt 8 [0] hs rfl<|O_s (Dw (n:=l.length) (m:=l.length) hs underlying22 cK rfl rfl rfl oM oM oM fun b10 _ hs =>Wp 9 [0,0] hs rfl ?_)
 rw [Tj,← kN l b] at hs
 obtain ⟨Gp0,hGp⟩:=hs.name
 subst hGp
 have hl_0:=hl
 refine Zl [1,5,11,12,13] (fun m E w=>∃ (k:Nat) (G2:Ah),Cu Gp0 G2∧k≤l.length∧m=l.length-k∧E=⟨[],[(1,.int .u8 (b.toNat:Int)),(5,Vs b10 l.length l.length),(11,(.slice A l.length cap)),(12,Vi ((l.length:Nat):Int)),(13,Vi (k:Int))]⟩∧St ⟨w0,Gp0,Bj []⟩ G2 [.row 5 1 (Vs b10 l.length l.length) l.length ((zR l b k).map Dy)] w) rfl (⟨0,_,Cu.refl _,by omega,rfl,rfl,hs⟩) fun m E w hI=>?_
 obtain ⟨k,G2,hlg0,hk,rfl,rfl,hs⟩:=hI
 have hl:=hl_0.mono hlg0
 refine Wt 2 [] hs rfl<|Zy hs (Yc rfl (fun h14=>?_) fun h14=>?_)
 ·
  refine Wp 9 [0] hs rfl<|Zy hs (Ca hl k underlying72 sizeOf76 rfl rfl rfl oM fun p16 c16 hp16 hc16 hR16=>?_)
  obtain ⟨p,hpe⟩:∃ q,q=l[k]'oM:=⟨_,rfl⟩
  rw [← hpe] at hR16
  obtain rfl:c16=[.bool p.copy,.int .u8 (p.b.toNat:Int)]:=hR16
  refine Zy hs (Db (vs:=[.bool p.copy,.int .u8 (p.b.toNat:Int)]) isAgg76 sizeOf76 rfl hp16 hc16<|O_s (Sa hs zeroValue76 rfl fun b7 _ hs=>Wp 1 [] hs rfl<|O_n (Sg hs rfl (rfl) fun _ hs=>Wp 7 [0,1,0] hs rfl<|Zy hs (Be (k) underlying22 sizeOf5 rfl rfl rfl oM<|O_n (Bz hs.f1 sizeOf5 rfl rfl rfl oM fun _ hs =>Wp 6 [0,0,1,0] hs rfl<|Fk rfl (fun hq=>?_) (fun hq=>?_))))))
  ·
   refine Wu 4 [] hs rfl<|Zy hs (Be (k) underlying22 sizeOf5 rfl rfl rfl oM<|O_n (Bz hs sizeOf5 rfl rfl rfl oM fun _ hs =>Wp 2 [0] hs rfl<|Zy hs (Ya (s:=((k+1:Nat):Int)) rfl<|Wp 1 [] hs rfl<|Zx [1,5,11,12,13] rfl ⟨k+1,_,hlg0,by omega,rfl,rfl,by rw [← bG (y:=p.b) (show k<l.length by omega) (by rw [← hpe,if_pos hq]),Aad,Aad];exact hs.wk [_]⟩)))
  refine Wu 2 [] hs rfl<|Zy hs (Ya (s:=((k+1:Nat):Int)) rfl<|Wp 1 [] hs rfl<|Zx [1,5,11,12,13] rfl ⟨k+1,_,hlg0,by omega,rfl,rfl,by rw [← eJ (show k<l.length by omega) (by rw [← hpe,if_neg (by rw [hq];exact Abj)]),Aad];exact hs.wk [_]⟩)
 refine Wp 4 [0] hs rfl<|Wu 5 [0] hs rfl<|As<|Zz results46 rfl ?_
 obtain rfl:k=l.length:=by omega
 rw [kO] at hs
 obtain ⟨G9,hG9,hf,hs⟩:=hs.fixRow noM
 exact hs.q ((show Bd _ _ _ from by unfold Bd;rw [Lt];exact hf))
theorem Xu (l:List (List Nat)):Cv l=Ra l l.length:=by
  unfold Cv Ra
  rw [Aab (by rw [List.length_zipIdx];exact AaR _)];rfl
theorem Ch (l:List (List Nat)):(Cv l).length=256:=by rw [Xu];exact Ha _ _
theorem eK {l:List Nat} {i:Nat} (h:l.length=256) (hi:i<256):(l.map Bx)[i]?=some (Bl (l.getD i 0)):=by
  rw [Aak,AaA oM,Cn7.gD oM];rfl
theorem Jo {v:Value} {l:List (List Nat)} (hl:Hl G v l) (hn:l.length≤1000000000) (hT:Tab G) :
  Ba prog 45 [v] G [] fun r _ H'=>H'=[]∧r=.agg ((Cv l).map Bx).toArray:=by
 obtain ⟨A,cap,rfl⟩:=hl.slice
 refine Ba.of_T [(0,_)] func45 rfl ntmps45 sM rfl fun w0 hs=>?_
 have hl0:=hl
 have hT0:=hT
 refine Wt 2 [] hs rfl<|O_s (Bs hs zeroValue80 (cs:=(List.map Bx (List.replicate 256 0))) rfl fun b2 _ hs =>Wp 3 [0] hs rfl<|O_s (Bs hs zeroValue80 (cs:=(List.map Bx (List.replicate 256 0))) rfl fun b3 _ hs =>Wp 8 [0,0] hs rfl ?_))
 have hs:=hs.f1.f1
 obtain ⟨Gp0,hGp⟩:=hs.name
 subst hGp
 have hl_0:=hl
 have hT_0:=hT
 refine Zl [2,3,8,9,10] (fun m E w=>∃ (k:Nat) (G2:Ah),Cu Gp0 G2∧k≤l.length∧m=l.length-k∧E=⟨[],[(2,Vp b2),(3,Vp b3),(8,(.slice A l.length cap)),(9,Vi ((l.length:Nat):Int)),(10,Vi (k:Int))]⟩∧St ⟨w0,Gp0,Bj []⟩ G2 [.blk b3 80 (List.map Bx (Ra l k)),.blk b2 80 (List.map Bx (List.replicate 256 0))] w) rfl (⟨0,_,Cu.refl _,by omega,rfl,rfl,hs⟩) fun m E w hI=>?_
 obtain ⟨k,G2,hlg0,hk,rfl,rfl,hs⟩:=hI
 have hl:=hl_0.mono hlg0
 have hT:=hT_0.mono hlg0
 refine Wt 2 [] hs rfl<|Zy hs (Yc rfl (fun h11=>?_) fun h11=>?_)
 ·
  refine Wp 9 [0] hs rfl<|Zy hs (Ca hl k underlying28 sizeOf86 rfl rfl rfl oM fun p13 c13 hp13 hc13 hR13=>?_)
  obtain ⟨rfl,h4,h64⟩:=hR13
  refine Zy hs (Db (vs:=List.map Bb (l[k]'oM)) isAgg86 sizeOf86 rfl hp13 hc13<|O_s (Bs hs zeroValue86 (cs:=(List.map Bb [0,0,0,0])) rfl fun b5 _ hs =>Wp 1 [] hs rfl<|O_n (Sw hs rfl (vs:=(List.map Bb (l[k]'oM))) Z13 Z13 (Dk _) fun _ hs=>Wp 3 [0] hs rfl<|Zy hs (Yk 0 rfl Z13<|O_s (Sp (jX h4 h64 hT) hs rfl fun v1 G' _ hbb hG16 hs=>?_)))))
  obtain ⟨A16,c16,rfl,_⟩:=id hbb
  have hb256:=Qs h4 h64
  refine Wp 3 [0] hs rfl ?_
  have hs:=hs.f2.f2
  obtain ⟨Gp1,hGp⟩:=hs.name
  subst hGp
  replace hl:=hl.mono hG16
  have hl_1:=hl
  replace hT:=hT.mono hG16
  have hT_1:=hT
  have hbb_1:=hbb
  replace hlg0:=hlg0.mono hG16
  have hlg0_1:=hlg0
  refine Zl [2,3,4,8,9,10,16,17,18] (fun m E w=>∃ (j:Nat) (G2:Ah),Cu Gp1 G2∧j≤(Br (l[k]'oM)).length∧m=(Br (l[k]'oM)).length-j∧E=⟨[],[(2,Vp b2),(3,Vp b3),(4,Vi (k:Int)),(8,(.slice A l.length cap)),(9,Vi ((l.length:Nat):Int)),(10,Vi (k:Int)),(16,(.slice A16 (Br (l[k]'oM)).length c16)),(17,Vi (((Br (l[k]'oM)).length:Nat):Int)),(18,Vi (j:Int))]⟩∧St ⟨w0,Gp0,Bj []⟩ G2 [.blk b3 80 (List.map Bx (Wv k ((Br (l[k]'oM)).take j) (Ra l k))),.blk b2 80 (List.map Bx (List.replicate 256 0))] w) rfl (⟨0,_,Cu.refl _,by omega,rfl,rfl,hs.wk [_,_]⟩) fun m E w hI=>?_
  obtain ⟨j,G2,hlg1,hj,rfl,rfl,hs⟩:=hI
  have hl:=hl_1.mono hlg1
  have hT:=hT_1.mono hlg1
  have hbb:=hbb_1.mono hlg1
  have hlg0:=hlg0_1.mono hlg1
  refine Wt 2 [] hs rfl<|Zy hs (Yc rfl (fun h19=>?_) fun h19=>?_)
  ·
   refine Wp 8 [0] hs rfl<|Zy hs (Ek hbb j underlying22 sizeOf5 rfl rfl rfl oM fun p20 hp20 =>Zy hs (Yg rfl (hp20)<|Wp 5 [0] hs rfl<|Zy hs (Bp ((Br (l[k]'oM))[j].toNat) underlying80 sizeOf3 rfl rfl rfl (by have:=(Br (l[k]'oM))[j].toNat_lt;omega)<|O_n (Gc hs sizeOf3 rfl rfl rfl (by rw [AaC,Th,Ha];have:=(Br (l[k]'oM))[j].toNat_lt;omega) (cs':=(List.map Bx (Wv k ((Br (l[k]'oM)).take (j+1)) (Ra l k)))) (by rw [eE _ _ _ j oM,Aad];rfl) fun _ hs =>Wp 2 [0] hs rfl<|Zy hs (Ya (s:=((j+1:Nat):Int)) rfl<|Wp 1 [] hs rfl ?_)))))
   have hs:=hs.f1.f1
   refine Zx [2,3,4,8,9,10,16,17,18] rfl ⟨j+1,_,hlg1,by omega,rfl,rfl,hs⟩
  refine Wp 4 [0] hs rfl ?_
  refine Zr<|Zy hs (Ya (s:=((k+1:Nat):Int)) rfl<|Wp 1 [] hs rfl ?_)
  have hs:=hs.f1.f1
  refine Zx [2,3,8,9,10] rfl ⟨k+1,_,hlg0,by omega,rfl,rfl,by rw [Aab oM,← eF oM] at hs;exact hs.wk [_,_]⟩
 refine Wp 4 [0] hs rfl<|Wu 2 [] hs rfl<|Zy hs (Yk 0 rfl (by rw [AaC,Ha])<|O_n (Sw hs.f1 rfl Z13 Z13 (Hb) fun _ hs=>Wp 1 [0] hs rfl<|As<|Zz results45 (Rb 0 hs rfl Z13) ?_))
 obtain rfl:k=l.length:=by omega
 exact hs.q (by rw [Xu])
theorem uV {v vw:Value} {d:Cy} {bs s0:Nat} {wd:List UInt8} (hd:Hm G v d) (hk:Cn7.DOk d) (hB:Cg G bs ((Cv d.cls).map Bx)) (hs0:s0<d.next.length) (hw:Bd G vw wd) (hwl:wd.length≤1000000000) :
  Ba prog 53 [v,Vp bs,Vi (s0:Int),vw] G [] fun r _ H'=>H'=[]∧r=Vi ((Cn7.aft (Av d) s0 wd):Int):=by
 obtain ⟨vc,vn,va,rfl,hC,hN,hA⟩:=hd
 obtain ⟨Ac,cc,rfl⟩:=Bi.slice hC
 obtain ⟨An,cn,rfl⟩:=Bi.slice hN
 obtain ⟨Aa,ca,rfl,_⟩:=id hA
 obtain ⟨Aw,cw,rfl,_⟩:=id hw
 have htok:=Cn7.tab_ok hk
 have hnx:d.next=(Av d).next:=rfl
 have hce0:Cv d.cls=(Av d).cell:=by rw [Xu,Xj]
 obtain ⟨t,ht⟩:∃ X,X=Av d:=⟨_,rfl⟩
 rw [← ht] at htok hnx hce0 ⊢
 rw [hnx] at hN hs0 ⊢
 rw [hce0] at hB
 have hcl:=htok.cl
 refine Ba.of_T [(0,_),(1,_),(2,_),(3,_)] func53 rfl ntmps53 sM rfl fun w0 hs=>?_
 have hN0:=hN
 have hB0:=hB
 have hw0:=hw
 refine Wt 2 [] hs rfl<|O_s (Sb hs rfl fun b4 _ hs=>Wp 9 [0,0] hs rfl ?_)
 obtain ⟨Gp0,hGp⟩:=hs.name
 subst hGp
 have hN_0:=hN
 have hB_0:=hB
 have hw_0:=hw
 refine Zl [1,2,4,11,12,13] (fun m E w=>∃ (k s:Nat) (G2:Ah),Cu Gp0 G2∧k≤wd.length∧s=Cn7.aft t s0 (wd.take k)∧s<t.next.length∧m=wd.length-k∧E=⟨[],[(1,Vp bs),(2,Vi (s:Int)),(4,Vp b4),(11,.slice Aw wd.length cw),(12,Vi ((wd.length:Nat):Int)),(13,Vi (k:Int))]⟩∧St ⟨w0,Gp0,Bj []⟩ G2 [.blk b4 37 [.slice Ac d.cls.length cc,.slice An t.next.length cn,.slice Aa d.acc.length ca]] w) rfl (⟨0,s0,_,Cu.refl _,by omega,rfl,by omega,rfl,rfl,hs⟩) fun m E w hI=>?_
 obtain ⟨k,s,G2,hlg0,hk9,hse,hsN,rfl,rfl,hs⟩:=hI
 have hN:=hN_0.mono hlg0
 have hB:=hB_0.mono hlg0
 have hw:=hw_0.mono hlg0
 refine Wt 2 [] hs rfl<|Zy hs (Yc rfl (fun h14=>?_) fun h14=>?_)
 ·
  refine Wp 8 [0] hs rfl<|Zy hs (Ek hw k underlying22 sizeOf5 rfl rfl rfl oM fun p15 hp15=>?_)
  obtain ⟨x,hx⟩:∃ z,z=wd[k]'oM:=⟨_,rfl⟩
  rw [← hx] at hp15
  obtain ⟨c,hce⟩:∃ z,z=t.cell.getD x.toNat 0:=⟨_,rfl⟩
  have hcc:c<t.cells:=by rw [hce];exact htok.cellAt x.toNat_lt
  refine Zy hs (Yg rfl (hp15)<|Wp 2 [0] hs rfl<|Bg [0,1,2,3,4,5,6,7,8,9,10,11] hs kR ?_)
  replace hs:=hs.drew
  refine Xr [0,1,2] [1,0] hs rfl<|Xt 3 hs rfl (Ca hN s underlying35 sizeOf79 rfl rfl rfl oM fun p20 c20 hp20 hc20 hR20=>?_)
  obtain ⟨rr,herr⟩:∃ r,r=t.next[s]'oM:=⟨_,rfl⟩
  rw [← herr] at hR20
  obtain ⟨u20,rfl,hrr⟩:=hR20
  obtain ⟨A20,c20,rfl,_⟩:=id hrr
  have hlrr:rr.length=t.cells∧∀ z9∈rr,z9<t.next.length:=htok.row rr vW
  refine Xt 4 hs rfl (Yg rfl (hp20 0 _ rfl)<|Xr [5,6] [] hs rfl<|Xt 7 hs rfl (Ci rfl<|Xt 8 hs rfl (Bp (x.toNat) underlying80 sizeOf3 rfl rfl rfl (x.toNat_lt)<|Xt 9 hs rfl (Yg rfl (hB x.toNat (Bl c) (by rw [hce];exact eK hcl x.toNat_lt))<|Xt 10 hs rfl (Ct hrr c underlying79 sizeOf3 rfl rfl rfl oM fun p27 hp27=>?_)))))
  obtain ⟨z,hze⟩:∃ z,z=rr[c]'oM:=⟨_,rfl⟩
  rw [← hze] at hp27
  have hzN:z<t.next.length:=hlrr.2 z Z49
  refine Xt 11 hs rfl (Yg rfl (hp27)<|Xa 12 rfl (S_y hs rfl (Yq rfl<|Xe (Zk [1,2,4,11,12,13] rfl ?_))))
  refine Zr<|Zy hs (Ya (s:=((k+1:Nat):Int)) rfl<|Wp 1 [] hs rfl ?_)
  have hst:Cn7.step t s x.toNat=z:=by unfold Cn7.step;rw [← hce,Qj oM Z61];simp only [← herr];exact hze.symm
  refine Zx [1,2,4,11,12,13] rfl ⟨k+1,z,_,hlg0,by omega,by rw [kK oM,← hse,← hx,hst],hzN,rfl,rfl,hs⟩
 refine Wp 4 [0] hs rfl<|Wu 5 [0] hs rfl<|As<|Zz results53 rfl ?_
 obtain rfl:k=wd.length:=by omega
 rw [Aaj] at hse
 exact hs.q (by rw [← hse])
theorem Pb {v:Value} {t:Tr} (ht:Mp G v t) (hk:Cn7.TrOk t) :
    Ba prog 29 [v] G [] fun r _ H'=>H'=[]∧r=.bool true:=Cn7.validT_of hk▸Ls ht
theorem zS {t:Tr} {s k:Nat} {b out:List UInt8} {x:UInt8} {mv:Mv} (h:k<b.length) (hx:b[k]=x) (hm:Dv t s x=mv) (hr:Bo t 0 b=(Bo t s (b.drop k)).map (out++·)) (h0:¬ mv.to<0) :
    Bo t 0 b=(Bo t mv.to.toNat (b.drop (k+1))).map ((out++Gt mv.out x)++·):=by
  rw [hr,Aaq h,hx,Bo,hm,if_neg h0,Option.map_map];congr 1;funext z;exact (AaI _ _ _).symm
theorem zT {t:Tr} {s k:Nat} {b out:List UInt8} {x:UInt8} {mv:Mv} (h:k<b.length) (hx:b[k]=x) (hm:Dv t s x=mv) (hr:Bo t 0 b=(Bo t s (b.drop k)).map (out++·)) (h0:mv.to<0):Bo t 0 b=none:=by
  rw [hr,Aaq h,hx,Bo,hm,if_pos h0];rfl
theorem run_end {t:Tr} {s:Nat} {b out:List UInt8} (hr:Bo t 0 b=(Bo t s (b.drop b.length)).map (out++·)) (hf:t.final.getD s false=true):Bo t 0 b=some (out++t.ends.getD s []):=by
  rw [hr,List.drop_length,Bo,if_pos hf];rfl
theorem run_no {t:Tr} {s:Nat} {b out:List UInt8} (hr:Bo t 0 b=(Bo t s (b.drop b.length)).map (out++·)) (hf:t.final.getD s false=false):Bo t 0 b=none:=by
  rw [hr,List.drop_length,Bo,if_neg (by rw [hf];exact Abj)];rfl
theorem gE {v vb:Value} {t:Tr} {b:List UInt8} (ht:Mp G v t) (htok:Cn7.TrOk t) (hb:Bd G vb b) (hT:Tab G) (hbl:b.length≤100000000) :
  Ba prog 15 [v,vb] G [] fun r G' H'=>H'=[]∧∃ u,r=.tuple #[u,.bool (Bo t 0 b).isSome]∧Bd G' u ((Bo t 0 b).getD []):=by
 obtain ⟨v1,v2,v3,v4,rfl,hTc,hTm,hTf,hTe⟩:=ht
 obtain ⟨A1,c1,rfl⟩:=hTc.slice
 obtain ⟨A2,c2,rfl⟩:=hTm.slice
 obtain ⟨A3,c3,rfl,_⟩:=id hTf
 obtain ⟨A4,c4,rfl⟩:=Eg hTe
 obtain ⟨A,cap,rfl,_⟩:=id hb
 have hn1:=htok.n1
 have hn2:=htok.n2
 have hfl:=htok.fl
 have hel:=htok.el
 have hc256:t.cls.length≤256:=htok.part.k2
 refine Ba.of_T [(0,_),(1,_)] func15 rfl ntmps15 sM rfl fun w0 hs=>?_
 have hTc0:=hTc
 have hTm0:=hTm
 have hTf0:=hTf
 have hTe0:=hTe
 have hb0:=hb
 have hT0:=hT
 refine Wt 2 [] hs rfl<|O_s (Sb hs rfl fun b2 _ hs=>Wp 7 [0,0] hs rfl<|O_s (Sp (Pb ⟨_,_,_,_,rfl,hTc,hTm,hTf,hTe⟩ htok) hs rfl fun v1 G' _ hR hG13 hs=>?_))
 obtain rfl:=hR
 refine Wp 8 [0,0,0] hs rfl ?_
 replace hTc:=hTc.mono hG13
 replace hT:=hT.mono hG13
 refine O_s (Sp (Jo hTc oM hT) hs rfl fun v2 G' _ hR hG17 hs=>?_)
 obtain rfl:=hR
 refine O_s (Bs hs zeroValue80 (cs:=(List.map Bx (List.replicate 256 0))) rfl fun b6 _ hs =>O_n (Sw hs rfl (vs:=(List.map Bx (Cv t.cls))) Z14 Z14 (Hb) fun _ hs=>Wp 13 [0,0,0] hs rfl ?_))
 have hs:=hs.nilRow 5 1
 have hs:=hs.f2.f2.f2
 obtain ⟨Gp0,hGp⟩:=hs.name
 subst hGp
 replace hTc:=hTc.mono hG17
 have hTc_0:=hTc
 replace hTm:=hTm.mono (hG13.trans hG17)
 have hTm_0:=hTm
 replace hTf:=hTf.mono (hG13.trans hG17)
 have hTf_0:=hTf
 replace hTe:=hTe.mono (hG13.trans hG17)
 have hTe_0:=hTe
 replace hb:=hb.mono (hG13.trans hG17)
 have hb_0:=hb
 replace hT:=hT.mono hG17
 have hT_0:=hT
 refine Zl [2,6,7,8,18,19,20] (fun m E w=>∃ (k s:Nat) (out:List UInt8) (v8:Value) (G2:Ah),Cu Gp0 G2∧k≤b.length∧s<t.moves.length∧Bo t 0 b=(Bo t s (b.drop k)).map (out++·)∧out.length≤8*k∧m=b.length-k∧E=⟨[],[(2,Vp b2),(6,Vp b6),(7,Vi (s:Int)),(8,v8),(18,(.slice A b.length cap)),(19,Vi ((b.length:Nat):Int)),(20,Vi (k:Int))]⟩∧St ⟨w0,G,Bj []⟩ G2 [.row 5 1 v8 out.length (out.map Dy),.blk b6 80 (List.map Bx (Cv t.cls)),.blk b2 33 [.slice A1 t.cls.length c1,.slice A2 t.moves.length c2,.slice A3 t.final.length c3,.slice A4 t.ends.length c4]] w) rfl (⟨0,0,[],_,_,Cu.refl _,by omega,by omega,by rw [List.drop_zero];cases Bo t 0 b<;>rfl,by simp,rfl,rfl,hs⟩) fun m E w hI=>?_
 obtain ⟨k,s,out,v8,G2,hlg0,hk9,hsn,hrun,hol,rfl,rfl,hs⟩:=hI
 have hTc:=hTc_0.mono hlg0
 have hTm:=hTm_0.mono hlg0
 have hTf:=hTf_0.mono hlg0
 have hTe:=hTe_0.mono hlg0
 have hb:=hb_0.mono hlg0
 have hT:=hT_0.mono hlg0
 refine Wt 2 [] hs rfl<|Zy hs (Yc rfl (fun h21=>?_) fun h21=>?_)
 ·
  refine Wp 8 [0] hs rfl<|Zy hs (Ek hb k underlying22 sizeOf5 rfl rfl rfl oM fun p22 hp22=>?_)
  obtain ⟨x,hx⟩:∃ z,b[k]'oM=z:=⟨_,rfl⟩
  rw [hx] at hp22
  refine Zy hs (Yg rfl (hp22)<|Wp 2 [0] hs rfl ?_)
  obtain ⟨rr,herr⟩:∃ q,t.moves[s]'oM=q:=⟨_,rfl⟩
  have hlrr:=htok.row rr Z42
  obtain ⟨ci,hce⟩:∃ z,z=(Cv t.cls).getD x.toNat 0:=⟨_,rfl⟩
  have hci:ci<t.cls.length:=by rw [hce];exact htok.cell x
  obtain ⟨mv,hmv⟩:∃ q,rr[ci]'oM=q:=⟨_,rfl⟩
  have hmF:Dv t s x=mv:=by unfold Dv;rw [← hce,Cn7.gD (show s<t.moves.length by omega),herr,Cn7.gD oM,hmv]
  have hmb:=htok.mv (show s<t.moves.length by omega) x
  rw [hmF] at hmb
  refine Wu 1 [] hs rfl<|Bg [0,1,2,3,4,5,6,7,8,9,10] hs kR ?_
  replace hs:=hs.drew
  refine Xr [0,1,2] [1,2] hs rfl<|Xt 3 hs rfl (Ca hTm s underlying29 sizeOf71 rfl rfl rfl oM fun p27 c27 hp27 hc27 hR27=>?_)
  rw [herr] at hR27
  obtain ⟨u27,rfl,hrr⟩:=hR27
  obtain ⟨A27,c27,rfl⟩:=hrr.slice
  refine Xt 4 hs rfl (Yg rfl (hp27 0 _ rfl)<|Xr [5] [] hs rfl<|Xt 6 hs rfl (Bp (x.toNat) underlying80 sizeOf3 rfl rfl rfl (x.toNat_lt)<|Xt 7 hs rfl (Ej 1 isAgg3 rfl rfl (show (List.map Bx (Cv t.cls))[x.toNat]?=some (Bl ci) from by rw [hce];exact eK (Ch _) x.toNat_lt)<|Xt 8 hs rfl (Ca hrr ci underlying71 sizeOf74 rfl rfl rfl oM fun p32 c32 hp32 hc32 hR32=>?_))))
  rw [hmv] at hR32
  obtain ⟨u32,rfl,hpc⟩:=hR32
  obtain ⟨A32,c32,rfl⟩:=hpc.slice
  refine Xt 9 hs rfl (Db (vs:=[Vi mv.to,.slice A32 mv.out.length c32]) isAgg74 sizeOf74 rfl hp32 hc32 ?_)
  have hle:=hs.le
  refine Xo 10 rfl (Sa hs zeroValue74 rfl fun b11 _ hs=>Ai hs hle (gLr _) (Aax _ _)<|Xn 11 rfl (Sg hs rfl (rfl) fun _ hs=>Xe (Zk [2,6,8,10,11,18,19,20] rfl<|Wu 5 [0,0] hs rfl<|Zy hs (Yc rfl (fun h36=>?_) fun h36=>?_))))
  ·
   refine Wp 7 [0,0] hs rfl<|As ?_
   refine By (vs:=[_,_]) results15 rfl ⟨rfl,rfl,trivial⟩ ?_
   try dsimp only [tup]
   rw [zT (show k<b.length by omega) hx hmF hrun oM]
   exact hs.q ⟨_,rfl,Sl.nil _ _⟩
  refine Wp 9 [0,1,0] hs rfl<|O_s (Sc (gC (b:=x) hpc oM) hs rfl fun v3 G' H' _ hR hG41 hs=>?_)
  obtain ⟨rfl,hw⟩:=hR
  obtain ⟨A41,c41,rfl,_⟩:=id hw
  replace hs:=hs.n rfl
  refine O_s (Au hs.f1 underlying22 cK rfl dC rfl rfl (hw) (Pm) Z60 Z60 fun v4 _ hs =>Wp 8 [0,0,1,0] hs rfl<|Zy hs (Ya (s:=((k+1:Nat):Int)) rfl<|Wp 1 [] hs rfl ?_))
  have hs:=hs.f3.f3.f2
  replace hlg0:=hlg0.mono hG41
  refine Zx [2,6,7,8,18,19,20] rfl ⟨k+1,mv.to.toNat,out++Gt mv.out x,_,_,hlg0,by omega,by omega,zS oM hx hmF hrun oM,by rw [AaB,Lt];omega,rfl,by rw [AcO oM],by rw [AaB,AaU];exact hs.wk [_,_,_]⟩
 refine Wp 4 [0] hs rfl ?_
 obtain rfl:k=b.length:=by omega
 obtain ⟨ff,hff⟩:∃ q,t.final[s]'oM=q:=⟨_,rfl⟩
 obtain ⟨ee,hee⟩:∃ q,t.ends[s]'oM=q:=⟨_,rfl⟩
 have hen:=(htok.en s hsn).1
 rw [Cn7.gD (show s<t.ends.length by omega),hee] at hen
 refine Wu 6 [2,2] hs rfl<|Zy hs (Ee s underlying30 sizeOf4 hTf rfl rfl rfl (Dm oM) fun p49 hp49=>?_)
 rw [hff] at hp49
 refine Zy hs (Yg rfl (hp49) ?_)
 cases ff
 ·
  refine Wp 8 [0,0] hs rfl<|As ?_
  refine By (vs:=[_,_]) results15 rfl ⟨rfl,rfl,trivial⟩ ?_
  try dsimp only [tup]
  rw [run_no hrun (by rw [Cn7.gD (show s<t.final.length by omega),hff])]
  exact hs.q ⟨_,rfl,Sl.nil _ _⟩
 refine Wp 10 [0,3,2] hs rfl<|Zy hs (Qp hTe s underlying31 sizeOf22 rfl rfl rfl oM fun p56 u56 hp56 hu56=>?_)
 obtain ⟨A56,c56,rfl,_⟩:=id hu56
 rw [hee] at hu56 hp56
 refine Zy hs (Yg rfl (hp56)<|O_s (Au hs underlying22 cK rfl dC rfl rfl (hu56) (Pm) oM oM fun v5 _ hs =>Wp 3 [0] hs rfl<|As ?_))
 refine By (vs:=[_,_]) results15 rfl ⟨rfl,rfl,trivial⟩ ?_
 try dsimp only [tup]
 rw [run_end hrun (by rw [Cn7.gD (show s<t.final.length by omega),hff]),Cn7.gD (show s<t.ends.length by omega),hee]
 obtain ⟨G9,hG9,hf,hs⟩:=hs.fixRow noM
 exact hs.q ⟨_,rfl,Bd.ofSl hf (by show _=(out++ee).length;rw [AaB]) (by show _=(out++ee).map Dy;rw [AaU])⟩
def A256R (_:Ah) (c:List Value) (r:List Nat):Prop:=c=r.map Bx∧r.length=256
def RA (G:Ah) (v:Value) (l:List (List Nat)):Prop:=Bi 256 A256R G v l
theorem RA.mono {G G':Ah} (h:G.le G') {v:Value} {l:List (List Nat)} (hl:RA G v l):RA G' v l:=Bi.mono (R:=A256R) (G:=G) (G':=G') (fun _ _ h=>h) h hl
theorem RA.slice {v:Value} {l:List (List Nat)} (h:RA G v l):∃ A c,v=.slice A l.length c:=Bi.slice h
def TA (G:Ah) (b:Nat) (rows:List (List Nat)) (acc:List Bool):Prop:=∃ vn va,Cg G b [vn,va]∧RA G vn rows∧Dt G va acc
def cX (l:List Nat):Nat:=l.foldl max 0
theorem kP {l:List Nat} {k:Nat} (h:k<l.length):cX (l.take (k+1))=max (cX (l.take k)) l[k]:=by
  unfold cX;exact Bu _ _ _ _ h
theorem max_one {l:List Nat} (h:0<l.length):cX (l.take 1)=l[0]:=by
  rw [kP h,AcS];show max 0 _=_;omega
theorem zU {n:Nat}:∀ (l:List Nat) (a:Nat),a≤n→(∀ x∈l,x≤n)→l.foldl max a≤n
  | [],_,h,_=>h
  | x::l,a,h,hx=>by rw [Aao];exact zU l _ (by have:=hx x AaK;omega) fun y hy=>hx y (AaG _ hy)
theorem gF:∀ (l:List Nat) (a x:Nat),x=a∨x∈l→x≤l.foldl max a
  | [],a,x,h=>by rcases h with rfl|h<;>first|exact AaR _|cases h
  | y::l,a,x,h=>by
    rw [Aao]
    rcases h with rfl | h
    · exact Aai (Nat.le_max_left _ y) (gF l _ _ (.inl rfl))
    · rcases AaV.1 h with rfl | h
      · exact Aai (Nat.le_max_right _ _) (gF l _ _ (.inl rfl))
      · exact gF l _ _ (.inr h)
theorem max_stb {rows:List (List Nat)} {acc:List Bool} {b r:List Nat} (S:Cn7.Stb (Cn7.tabA rows acc) (List.range rows.length) b r) (h1:1≤rows.length):cX b+1=r.length:=by
  have hl:b.length=rows.length:=S.len
  have hb:∀ x∈b,x<r.length:=fun x hx=>by
    obtain ⟨s,hs,rfl⟩:=AaQ.1 hx
    have:=S.lt s (Aae.2 oM)
    rwa [Cn7.gD hs] at this
  have hr:0<r.length:=Nat.lt_of_le_of_lt (Aas _) (S.lt 0 (Aae.2 h1))
  have u1:cX b≤r.length-1:=zU b 0 oM fun x hx=>by have:=hb x hx;omega
  have u2:=(S.rr (r.length-1) oM)
  have u3:r.length-1≤cX b:=gF b 0 _ (.inr (by
    have h2:=Aae.1 u2.1
    rw [← u2.2,Cn7.gD oM];exact AaD _))
  omega
def bH (b:List Nat) (rows:List (List Nat)) (acc:List Bool) (n:Nat):Option (Option Cy):=if 64<n then some none else (Eu (Av (Cn7.quoF b rows acc n))).map some
theorem max7_ok {v:Value} {l:List Nat} (hl:De G v l) (h1:0<l.length) (hn:l.length≤1000000000) :
  Ba prog 111 [v] G [] fun r _ H'=>H'=[]∧r=Vi ((cX l):Int):=by
 obtain ⟨A,cap,rfl,_⟩:=id hl
 refine Ba.of_T [(0,_)] func111 rfl ntmps111 sM rfl fun w0 hs=>?_
 have hl0:=hl
 refine Wt 9 [0] hs rfl<|Zy hs (Mz rfl rfl rfl oM<|Wp 6 [0] hs rfl<|Zy hs (Ct hl 0 underlying79 sizeOf3 rfl rfl rfl oM fun p10 hp10 =>Zy hs (Yg rfl (hp10)<|Wp 7 [0,0] hs rfl ?_)))
 rw [← max_one h1]
 obtain ⟨Gp0,hGp⟩:=hs.name
 subst hGp
 have hl_0:=hl
 refine Zl [0,3,4] (fun m E w=>∃ (k:Nat) (G2:Ah),Cu Gp0 G2∧1≤k∧k≤l.length∧m=l.length-k∧E=⟨[],[(0,(.slice A l.length cap)),(3,Vi ((cX (l.take k)):Int)),(4,Vi (k:Int))]⟩∧St ⟨w0,Gp0,Bj []⟩ G2 [] w) rfl (⟨1,_,Cu.refl _,by omega,by omega,rfl,rfl,hs⟩) fun m E w hI=>?_
 obtain ⟨k,G2,hlg0,hk1,hk9,rfl,rfl,hs⟩:=hI
 have hl:=hl_0.mono hlg0
 refine Wt 6 [] hs rfl<|Zy hs (Yc rfl (fun h15=>?_) fun h15=>?_)
 ·
  refine Wp 9 [0] hs rfl<|Zy hs (Ct hl k underlying79 sizeOf3 rfl rfl rfl oM fun p21 hp21 =>Zy hs (Yg rfl (hp21)<|Zy hs (Y_max (c:=((cX (l.take (k+1)):Nat):Int)) rfl rfl (by rw [kP (show k<l.length by omega)];omega)<|Wp 4 [0] hs rfl<|Zy hs (Ya (s:=((k+1:Nat):Int)) rfl<|Wp 1 [] hs rfl<|Zx [0,3,4] rfl ⟨k+1,_,hlg0,by omega,by omega,rfl,rfl,hs⟩))))
 refine Wp 3 [0] hs rfl<|Wu 5 [0] hs rfl<|As<|Zz results111 rfl ?_
 obtain rfl:k=l.length:=by omega
 rw [Aaj]
 exact hs.q rfl
theorem Wj {acc:List Bool} {k:Nat} (b:List Nat):(List.range (k+1)).foldl (fun b s=>if acc.getD s false=true then b.set s 1 else b) b=(fun b s=>if acc.getD s false=true then b.set s 1 else b) ((List.range k).foldl (fun b s=>if acc.getD s false=true then b.set s 1 else b) b) k:=by rw [AbC,Aap];rfl
theorem Wk {t:Tb} {bl:List Nat} {k:Nat} (st:Rf):(List.range (k+1)).foldl (Xc t bl) st=Xc t bl ((List.range k).foldl (Xc t bl) st) k:=by rw [AbC,Aap];rfl
theorem bI {l:List Nat} {i:Nat} (h:i<l.length):(l.map Bx)[i]?=some (Bl (l[i]'h)):=by rw [Aak,AaA h];rfl
theorem nZ {rows:List (List Nat)} {acc:List Bool} {b r:List Nat} (h:Cn7.AOk rows acc) (S:Cn7.Stb (Cn7.tabA rows acc) (List.range rows.length) b r):∃ R,bH b rows acc r.length=some R:=by
  unfold bH
  split
  · exact ⟨_,rfl⟩
  · obtain ⟨D,hD,_⟩:=Cn7.canon_ok (Cn7.tab_ok (Cn7.quo_ok h S oM).1)
    rw [hD];exact ⟨_,rfl⟩
theorem qk_nd {b:List Nat} {rows:List (List Nat)} {k:Nat} {st:Cn7.Qu} (h:Cn7.QOk b rows k st):st.keys.Nodup:=by rw [h.keys];exact Cn7.dd_nodup _ _
theorem aK {α:Type} [DecidableEq α] {f:Nat→α}:∀ k,(Cn7.dd f k).length≤k
  | 0=>AaR _
  | k+1=>by
    have:=aK (f:=f) k
    rw [Cn7.dd];split
    · omega
    · rw [AaB,Aac];omega
theorem qk_le {b:List Nat} {rows:List (List Nat)} {k:Nat} {st:Cn7.Qu} (h:Cn7.QOk b rows k st):st.keys.length≤k:=by rw [h.keys];exact aK k
theorem gG {l:List (List Nat)} (h:∀ c∈l,Cj c):Nn l:=fun c hc=>h c hc
theorem rV {b:List Nat} {rows:List (List Nat)} {st:Cn7.Qu} {x:Nat} (h:¬ Bc (Cn7.quoK b rows x) st.keys<st.keys.length):Cn7.quN b rows st x=⟨st.keys++[Cn7.quoK b rows x],st.cls++[[0,0,0,0]],st.least++[x]⟩:=if_neg h
theorem rW {b:List Nat} {rows:List (List Nat)} {st:Cn7.Qu} {x:Nat} (h:Bc (Cn7.quoK b rows x) st.keys<st.keys.length):Cn7.quN b rows st x=st:=if_pos h
theorem eL {b:List Nat} {rows:List (List Nat)} {k x:Nat} {st:Cn7.Qu} (h:Cn7.QOk b rows k st):Nn (Cn7.quN b rows st x).cls∧Bc (Cn7.quoK b rows x) st.keys<(Cn7.quN b rows st x).cls.length:=by
  have h1:=h.cl
  by_cases hp:Bc (Cn7.quoK b rows x) st.keys<st.keys.length
  · rw [rW hp];exact ⟨gG h.c4,by omega⟩
  · rw [rV hp]
    have:=Wy (Cn7.quoK b rows x) st.keys
    refine ⟨gG fun d hd=>?_,by show _<(st.cls++_).length;rw [AaB,Aac];omega⟩
    rcases AaS.1 hd with hd | hd
    · exact h.c4 d hd
    · rw [AaE.1 hd];exact ⟨rfl,by decide⟩
theorem zV {b:List Nat} {rows:List (List Nat)} {st s2:Cn7.Qu} {x:Nat} (h:s2=Cn7.quN b rows st x) (hi:Bc (Cn7.quoK b rows x) st.keys<s2.cls.length):Cn7.quP b rows st x={ s2 with cls:=s2.cls.set (Bc (Cn7.quoK b rows x) st.keys) (Df (s2.cls[Bc (Cn7.quoK b rows x) st.keys]'hi) (Xb [UInt8.ofNat x])) }:=by
  subst h
  unfold Cn7.quP;dsimp only;rw [Bn hi]
theorem kQ {b:List Nat} {rows:List (List Nat)} {k:Nat} (st:Cn7.Qu):(List.range (k+1)).foldl (Cn7.quP b rows) st=Cn7.quP b rows ((List.range k).foldl (Cn7.quP b rows) st) k:=by rw [AbC,Aap];rfl
theorem uW {b:List Nat} {rows:List (List Nat)} {x k:Nat} (h:k<rows.length):Cn7.quoK b (rows.take (k+1)) x=Cn7.quoK b (rows.take k) x++[UInt8.ofNat (b.getD ((rows[k]).getD x 0) 0)]:=by
  unfold Cn7.quoK;rw [Aay,AaA h,AaU];rfl
theorem kS {b:List Nat} {rows:List (List Nat)} {x:Nat}:(Cn7.quoK b rows x).length=rows.length:=by unfold Cn7.quoK;rw [AaC]
def quS (b:List Nat) (rows:List (List Nat)) (acc:List Bool) (least:List Nat) (st:List (List Nat)×List Bool) (s:Nat):List (List Nat)×List Bool:=(st.1.set (b.getD s 0) (Cn7.quRow b rows least s),st.2.set (b.getD s 0) (acc.getD s false))
theorem bJ {b:List Nat} {rows:List (List Nat)} {acc:List Bool} {least:List Nat} {k:Nat} (st:List (List Nat)×List Bool):(List.range (k+1)).foldl (quS b rows acc least) st=quS b rows acc least ((List.range k).foldl (quS b rows acc least) st) k:=by rw [AbC,Aap];rfl
theorem oA (b:List Nat) (rows:List (List Nat)) (acc:List Bool) (least:List Nat) (n:Nat):Cn7.quR b rows acc least n=(List.range rows.length).foldl (quS b rows acc least) (List.replicate n [],List.replicate n false):=rfl
theorem Cw.set {α β:Type} {R:α→β→Prop} {a:α} {c:β} (h:R a c):∀ {l:List α} {m:List β} (i:Nat),Cw R l m→Cw R (l.set i a) (m.set i c)
  | [],[],_,_=>trivial
  | _::_,_::_,0,h2=>⟨h,h2.2⟩
  | _::_,_::_,i+1,h2=>⟨h2.1,Cw.set h i h2.2⟩
theorem Dg.rep:∀ n,Dg G (List.replicate n (Vn)) (List.replicate n [])
  | 0=>trivial
  | n+1=>⟨Sl.nil G 1,Dg.rep n⟩
theorem Pz {b:List Nat} {rows:List (List Nat)} {least:List Nat} {s:Nat}:(Cn7.quRow b rows least s).length=least.length:=by unfold Cn7.quRow;rw [AaC]
theorem zW {b:List Nat} {rows:List (List Nat)} {least:List Nat} {s j:Nat} (h:j<least.length):(Cn7.quRow b rows least s)[j]'(by rw [Pz];exact h)=b.getD ((rows.getD s []).getD least[j] 0) 0:=by unfold Cn7.quRow;rw [Aaa]
theorem Vj {b:List Nat} {rows:List (List Nat)} {LS qr rr:List Nat} {s j y z u:Nat} (hq:qr=Cn7.quRow b rows LS s) (hj:j<LS.length) (hs:s<rows.length) (hr:rr=rows[s]) (hy:y=LS[j]) (hyl:y<rr.length) (hz:z=rr[y]) (hzl:z<b.length) (hu:u=b[z]) (h:j<qr.length):qr[j]'h=u:=by
  subst hq
  rw [zW hj,Cn7.gD hs,← hr,← hy,Cn7.gD hyl,← hz,Cn7.gD hzl,hu]
theorem bK {b:List Nat} {rows:List (List Nat)} {acc:List Bool} {n:Nat} {R:Option Cy} (h:¬ 64<n) (hR:bH b rows acc n=some R):∃ D,Eu (Av (Cn7.quoF b rows acc n))=some D∧R=some D:=by
  unfold bH at hR;rw [if_neg h] at hR
  cases hc:Eu (Av (Cn7.quoF b rows acc n)) with
  | none=>rw [hc] at hR;cases hR
  | some D=>rw [hc] at hR;injection hR with hR;exact ⟨D,rfl,hR.symm⟩
theorem Ri {r:List Nat} {n k v:Nat} (h:k<r.length) (hn:r.length=n) (hv:r[k]=v):(r.take k++List.replicate (n-k) 0).set k v=r.take (k+1)++List.replicate (n-(k+1)) 0:=by
  rw [Hh Z55 oM,Aay,AaA h,hv];rfl
theorem zX {v:Value} {b0:Nat} {rows:List (List Nat)} {acc:List Bool} {b rp:List Nat} {R:Option Cy} (hTA:TA G b0 rows acc) (hAO:Cn7.AOk rows acc) (hsz:rows.length≤5000) (S:Cn7.Stb (Cn7.tabA rows acc) (List.range rows.length) b rp) (hnb:De G v b) (hR:bH b rows acc rp.length=some R) (hT:Tab G) :
  Ba prog 110 [Vp b0,v,Vi (rp.length:Int)] G [] fun r G' H'=>H'=[]∧DE G' r R:=by
 obtain ⟨un,ua,hB,hN,hA⟩:=hTA
 obtain ⟨An,cn,rfl⟩:=hN.slice
 obtain ⟨Aa,ca,rfl,_⟩:=id hA
 have hn1:=hAO.n1
 have hal:=hAO.al
 obtain ⟨Ab,cb,rfl,_⟩:=id hnb
 have hbl:b.length=rows.length:=S.len
 have hbn:∀ s,s<rows.length→b.getD s 0<rp.length:=fun s hs9=>S.lt s (Aae.2 hs9)
 have hrp:rp.length≤rows.length:=by have:=S.le;rwa [AaO] at this
 refine Ba.of_T [(0,_),(1,_),(2,_)] func110 rfl ntmps110 sM rfl fun w0 hs=>?_
 have hB0:=hB
 have hN0:=hN
 have hA0:=hA
 have hnb0:=hnb
 have hT0:=hT
 refine Wt 2 [] hs rfl<|O_s (Sa hs zeroValue37 rfl fun b6 _ hs=>Wp 6 [0] hs rfl<|Zy hs (Yc rfl (fun h21=>?_) fun h21=>?_))
 ·
  refine Wp 4 [0] hs rfl<|Zy hs (Ce zeroValue37 rfl nN rfl (cs:=[_,_,_]) rfl<|O_n (Sg hs rfl (rfl) fun _ hs=>Wp 2 [0] hs rfl<|As ?_))
  have hr:=hs
  refine By (vs:=[_,_]) results110 rfl ⟨Bq 0 hr isAgg37 sizeOf37 rfl (cs:=[_,_,_]) rfl rfl,rfl,trivial⟩ ?_
  try dsimp only [tup]
  exact hs.q ((by have e:=hR;unfold bH at e;rw [if_pos oM] at e;injection e with e;subst e;rfl))
 refine Wp 5 [0] hs rfl<|O_s (Fm hs fun b23 _ hs =>Wp 4 [0] hs rfl<|O_s (Sa hs zeroValue37 rfl fun b9 _ hs=>Wp 10 [0,0,0] hs rfl ?_))
 have hs:=hs.nilRow 86 4
 have hs:=hs.nilRow 3 1
 have hs:=hs.f4.f2.f3.f3.f4
 obtain ⟨Gp0,hGp⟩:=hs.name
 subst hGp
 have hB_0:=hB
 have hN_0:=hN
 have hA_0:=hA
 have hnb_0:=hnb
 have hT_0:=hT
 refine Zl [0,1,2,6,8,9,10,24] (fun m E w=>∃ (x:Nat) (sm:Cn7.Qu) (vle vcl:Value) (G2:Ah),Cu Gp0 G2∧x≤256∧sm=(List.range x).foldl (Cn7.quP b rows) ⟨[],[],[]⟩∧Cn7.QOk b rows x sm∧m=256-x∧E=⟨[],[(0,Vp b0),(1,(.slice Ab b.length cb)),(2,Vi (rp.length:Int)),(6,Vp b6),(8,.map (some b23)),(9,Vp b9),(10,vle),(24,Vi (x:Int))]⟩∧St ⟨w0,Gp0,Bj []⟩ G2 [.obj b23 (.map (En Ji sm.keys).toArray sm.keys.length),.row 3 1 (vle) sm.least.length (sm.least.map Bl),.blk b9 37 [vcl,Vn,Vn],.row 86 4 (vcl) sm.cls.length (Dq sm.cls),.blk b6 37 [Vn,Vn,Vn]] w) rfl (⟨0,⟨[],[],[]⟩,_,_,_,Cu.refl _,by omega,rfl,Cn7.qu_all b rows 0 oM,rfl,rfl,hs⟩) fun m E w hI=>?_
 obtain ⟨x,sm,vle,vcl,G2,hlg0,hx9,hsm,hq,rfl,rfl,hs⟩:=hI
 have hB:=hB_0.mono hlg0
 have hN:=hN_0.mono hlg0
 have hA:=hA_0.mono hlg0
 have hnb:=hnb_0.mono hlg0
 have hT:=hT_0.mono hlg0
 refine Wt 2 [] hs rfl<|Zy hs (Yc rfl (fun h25=>?_) fun h25=>?_)
 ·
  refine Wp 19 [0,0,0] hs rfl<|Zy hs (Ci rfl<|Wp 1 [0] hs rfl<|Zy hs (Yg rfl (hB 0 _ rfl)<|Wp 3 [0] hs rfl ?_))
  have hs:=hs.nilRow 5 1
  have hs:=hs.f5.f5.f5.f5.f5.f5
  obtain ⟨Gp1,hGp⟩:=hs.name
  subst hGp
  have hB_1:=hB
  have hN_1:=hN
  have hA_1:=hA
  have hnb_1:=hnb
  have hT_1:=hT
  have hlg0_1:=hlg0
  refine Zl [0,1,2,6,8,9,10,11,12,24,31,32] (fun m E w=>∃ (k:Nat) (vk:Value) (G2:Ah),Cu Gp1 G2∧k≤rows.length∧m=rows.length-k∧E=⟨[],[(0,Vp b0),(1,(.slice Ab b.length cb)),(2,Vi (rp.length:Int)),(6,Vp b6),(8,.map (some b23)),(9,Vp b9),(10,vle),(11,Vi (x:Int)),(12,vk),(24,Vi (x:Int)),(31,Vi ((rows.length:Nat):Int)),(32,Vi (k:Int))]⟩∧St ⟨w0,Gp0,Bj []⟩ G2 [.row 5 1 vk (Cn7.quoK b (rows.take k) x).length ((Cn7.quoK b (rows.take k) x).map Dy),.obj b23 (.map (En Ji sm.keys).toArray sm.keys.length),.row 3 1 (vle) sm.least.length (sm.least.map Bl),.blk b9 37 [vcl,Vn,Vn],.row 86 4 (vcl) sm.cls.length (Dq sm.cls),.blk b6 37 [Vn,Vn,Vn]] w) rfl (⟨0,_,_,Cu.refl _,by omega,rfl,rfl,hs⟩) fun m E w hI=>?_
  obtain ⟨k,vk,G2,hlg1,hk9,rfl,rfl,hs⟩:=hI
  have hB:=hB_1.mono hlg1
  have hN:=hN_1.mono hlg1
  have hA:=hA_1.mono hlg1
  have hnb:=hnb_1.mono hlg1
  have hT:=hT_1.mono hlg1
  have hlg0:=hlg0_1.mono hlg1
  refine Wt 2 [] hs rfl<|Zy hs (Yc rfl (fun h33=>?_) fun h33=>?_)
  ·
   refine Wp 15 [0,0] hs rfl<|Zy hs (Ci rfl<|Wp 1 [0] hs rfl<|Zy hs (Yg rfl (hB 0 _ rfl)<|Wp 2 [] hs rfl<|Zy hs (Ca hN k underlying101 sizeOf80 rfl rfl rfl oM fun p43 c43 hp43 hc43 hR43=>?_)))
   obtain ⟨rr,herr⟩:∃ r,r=rows[k]'oM:=⟨_,rfl⟩
   rw [← herr] at hR43
   obtain ⟨rfl,hrl⟩:=hR43
   have hlrr:∀ x∈rr,x<rows.length:=(hAO.row rr vW).2
   obtain ⟨y,hye⟩:∃ y,y=rr[x]'oM:=⟨_,rfl⟩
   have hyN:y<rows.length:=hlrr y Z48
   refine Zy hs (Pp x underlying80 sizeOf3 rfl rfl rfl oM<|Zy hs (Yg rfl (hp43 x (Bl y) (by rw [hye];exact bI oM))<|Zy hs (Ct hnb y underlying79 sizeOf3 rfl rfl rfl oM fun p46 hp46=>?_)))
   obtain ⟨z,hze⟩:∃ z,z=b[y]'oM:=⟨_,rfl⟩
   rw [← hze] at hp46
   refine Zy hs (Yg rfl (hp46)<|Zy hs (Dj underlying3 underlying5 (c:=((UInt8.ofNat z).toNat:Int)) rfl (Dx _)<|O_s (Bw hs underlying22 sizeOf5 zeroValue5 rfl rfl dC dC rfl (cs:=[_]) rfl rfl fun v1 _ hs _=>?_)))
   obtain ⟨_,hG49,hl49,hs⟩:=hs.fixRow noM
   refine O_s (Au hs underlying22 cK rfl dC rfl rfl (hl49) (Cp rfl) (by rw [kS,Aag];omega) (by rw [kS,Aag];omega) fun v2 _ hs =>Wp 3 [12,0,1,2,6,8,9,10,11,12,24,31,32] hs rfl<|Zy hs (Ya (s:=((k+1:Nat):Int)) rfl<|Wp 1 [] hs rfl ?_))
   have hs:=hs.f5.f5.f5.f5.f5.f5
   replace hlg1:=hlg1.mono hG49
   refine Zx [0,1,2,6,8,9,10,11,12,24,31,32] rfl ⟨k+1,_,_,hlg1,by omega,rfl,rfl,by rw [uW (show k<rows.length by omega),← herr,Bn (show x<rr.length by omega),← hye,Bn (show y<b.length by omega),← hze,AaU,AaB];exact hs⟩
  refine Wp 4 [0] hs rfl ?_
  obtain rfl:k=rows.length:=by omega
  rw [Aaj] at hs
  obtain ⟨_,hG_hky,hky,hs⟩:=hs.fixRow noM
  replace hky:Bd _ _ _:=hky
  have hnd:=qk_nd hq
  have hkl:sm.keys.length=sm.least.length:=hq.ll.symm
  have hcl9:=hq.cl
  have hkx:=qk_le hq
  refine Wu 4 [] hs rfl<|Zy hs (Kq (bs:=(Cn7.quoK b rows x)) underlying22 underlying5 underlying9 rfl hky ?_)
  replace hlg0:=hlg0.mono hG_hky
  refine Zy hs (Fp (a:=(Cn7.quoK b rows x)) 0 rfl underlying114 aW zeroValue3 hnd rfl rfl (fun hno=>?_) (fun hyes=>?_))
  ·
   refine Wp 16 [0,0] hs rfl<|Zy hs (Dl 1 rfl underlying79 rfl hs<|Wp 6 [11,0,1,2,6,8,9,10,11,12,14,24] hs rfl<|Zy hs (Kq (bs:=(Cn7.quoK b rows x)) underlying22 underlying5 underlying9 rfl hky<|Wp 1 [] hs rfl<|O_n (Ks hs underlying114 aW hnd hno rfl rfl (by rw [hkl];rfl) fun _ hs =>Wp 5 [0] hs rfl<|O_s (Bw hs underlying79 sizeOf3 zeroValue3 rfl rfl dC dC rfl (cs:=[_]) rfl rfl fun v3 _ hs _=>?_))))
   obtain ⟨_,hG69,hl69,hs⟩:=hs.fixRow noM
   refine O_s (Au hs.f1 underlying79 Qx rfl dC rfl rfl (hl69) (Cp rfl) oM oM fun v4 _ hs =>Wp 5 [0,0,2] hs rfl<|Zy hs (Dr underlying86 sizeOf84 zeroValue86 rfl rfl (cs:=[_,_,_,_]) rfl<|O_s (Bw hs underlying28 sizeOf86 zeroValue86 rfl rfl dC dC rfl (cs:=[_,_,_,_]) rfl rfl fun v5 _ hs _=>?_)))
   obtain ⟨_,hG74,hl74,hs⟩:=hs.fixRow noM
   refine O_s (Au hs.f3 underlying28 jY rfl dC rfl rfl (hl74) (yW) oM oM fun v6 _ hs =>Wp 1 [0] hs rfl<|O_n (Sd hs.f3 rfl (hs.f3.rowOne 1 rfl) fun _ hs=>Wp 1 [10,0,1,2,6,8,9,10,11,14,24] hs rfl ?_))
   have hs:=hs.f4.f2.f2.f3.f4
   replace hs:=hs.wk [_,_,_,_,_]
   obtain ⟨s2,hs2e⟩:∃ s,s=Cn7.quN b rows sm x:=⟨_,rfl⟩
   obtain ⟨hc24,hixl⟩:=eL (x:=x) hq
   rw [← hs2e] at hc24 hixl
   have hpl:=Wy (Cn7.quoK b rows x) sm.keys
   have hixn:sm.least.length=(Bc (Cn7.quoK b rows x) sm.keys):=by omega
   rw [hixn]
   replace hs:=Bh (H':=[.obj b23 (.map (En Ji s2.keys).toArray s2.keys.length),.row 3 1 (v4) s2.least.length (s2.least.map Bl),.blk b9 37 [v6,Vn,Vn],.row 86 4 (v6) s2.cls.length (Dq s2.cls),.blk b6 37 [Vn,Vn,Vn]]) hs (by rw [hs2e,rV hno];simp [Qz,Bl,Bb])
   obtain ⟨b10,cap10,hb10,_⟩:=hs.rowForm 3 rfl oM
   subst hb10
   refine Bg [0,1,2,3,4,5,6,7,8,9,10,11,12,13] hs kR ?_
   replace hs:=hs.drew
   refine Xr [0,1,2,3,4,5] [0,2,0,2] hs rfl<|Xt 6 hs rfl (Cl (Bc (Cn7.quoK b rows x) sm.keys) underlying28 sizeOf86 rfl rfl rfl hixl<|Xt 7 hs rfl (Ge 3 rfl isAgg86 sizeOf86 rfl hixl (Hz hc24 hixl) (by rw [AaC];exact (hc24 _ (AaD _)).1)<|Xr [8] [] hs rfl<|Xt 9 hs rfl (Dj underlying3 underlying5 (c:=((UInt8.ofNat x).toNat:Int)) rfl (Dx _) ?_)))
   have hle:=hs.le
   refine Xo 10 rfl (Bw hs underlying22 sizeOf5 zeroValue5 rfl rfl dC dC rfl (cs:=[_]) rfl rfl fun v7 _ hs _=>?_)
   obtain ⟨_,hG87,hl87,hs⟩:=hs.fixRow noM
   replace hlg0:=hlg0.mono (hG69.trans (hG74.trans hG87))
   refine Ai hs hle hG87 (lSr _) ?_
   have hle:=hs.le
   refine Xo 11 rfl (Sp (eB (l:=[UInt8.ofNat x]) (Bd.ofSl hl87 rfl rfl) Z58) hs rfl fun v8 G' _ hR hG88 hs=>?_)
   obtain rfl:=hR
   replace hlg0:=hlg0.mono hG88
   refine Ai hs hle hG88 (lSr _) ?_
   have hle:=hs.le
   refine Xo 12 rfl (Sp (Gf (hc24 _ (AaD hixl)).1 (Hq _)) hs rfl fun v9 G' _ hR hG89 hs=>?_)
   obtain rfl:=hR
   replace hlg0:=hlg0.mono hG89
   refine Ai hs hle hG89 (lSr _)<|Xt 13 hs rfl (Cl (Bc (Cn7.quoK b rows x) sm.keys) underlying28 sizeOf86 rfl rfl rfl hixl<|Xn 14 rfl (Gw (vs:=(Df (s2.cls[(Bc (Cn7.quoK b rows x) sm.keys)]'hixl) (Xb [UInt8.ofNat x])).map Bb) hs.f3 sizeOf86 rfl rfl (by rw [AaC];exact (Oy (hc24 _ (AaD hixl)).1 (Hq _)).1) (Dk _) hixl fun _ hs =>Xe (Zk [0,1,2,6,8,9,10,24] rfl ?_)))
   refine Zr<|Zy hs (Ya (s:=((x+1:Nat):Int)) rfl<|Wp 1 [] hs rfl ?_)
   have hs:=hs.f4.f1.f4.f4.f4
   refine Zx [0,1,2,6,8,9,10,24] rfl ⟨x+1,Cn7.quP b rows sm x,v4,Vs b10 s2.cls.length cap10,_,hlg0,by omega,by rw [kQ,← hsm],Cn7.qu_one oM hq,rfl,rfl,Bh hs (by rw [← Iy hc24 hixl,zV hs2e hixl];simp)⟩
  refine Wp 14 [0,0] hs rfl ?_
  have hs:=hs.f4.f4.f4.f4.f4
  replace hs:=hs.wk [_,_,_,_,_]
  obtain ⟨s2,hs2e⟩:∃ s,s=Cn7.quN b rows sm x:=⟨_,rfl⟩
  obtain ⟨hc24,hixl⟩:=eL (x:=x) hq
  rw [← hs2e] at hc24 hixl
  replace hs:=Bh (H':=[.obj b23 (.map (En Ji s2.keys).toArray s2.keys.length),.row 3 1 (vle) s2.least.length (s2.least.map Bl),.blk b9 37 [vcl,Vn,Vn],.row 86 4 (vcl) s2.cls.length (Dq s2.cls),.blk b6 37 [Vn,Vn,Vn]]) hs (by rw [hs2e,rW hyes])
  obtain ⟨b10,cap10,hb10,_⟩:=hs.rowForm 3 rfl oM
  subst hb10
  refine Bg [0,1,2,3,4,5,6,7,8,9,10,11,12,13] hs kR ?_
  replace hs:=hs.drew
  refine Xr [0,1,2,3,4,5] [0,2,0,2] hs rfl<|Xt 6 hs rfl (Cl (Bc (Cn7.quoK b rows x) sm.keys) underlying28 sizeOf86 rfl rfl rfl hixl<|Xt 7 hs rfl (Ge 3 rfl isAgg86 sizeOf86 rfl hixl (Hz hc24 hixl) (by rw [AaC];exact (hc24 _ (AaD _)).1)<|Xr [8] [] hs rfl<|Xt 9 hs rfl (Dj underlying3 underlying5 (c:=((UInt8.ofNat x).toNat:Int)) rfl (Dx _) ?_)))
  have hle:=hs.le
  refine Xo 10 rfl (Bw hs underlying22 sizeOf5 zeroValue5 rfl rfl dC dC rfl (cs:=[_]) rfl rfl fun v10 _ hs _=>?_)
  obtain ⟨_,hG87,hl87,hs⟩:=hs.fixRow noM
  replace hlg0:=hlg0.mono hG87
  refine Ai hs hle hG87 (lSr _) ?_
  have hle:=hs.le
  refine Xo 11 rfl (Sp (eB (l:=[UInt8.ofNat x]) (Bd.ofSl hl87 rfl rfl) Z58) hs rfl fun v11 G' _ hR hG88 hs=>?_)
  obtain rfl:=hR
  replace hlg0:=hlg0.mono hG88
  refine Ai hs hle hG88 (lSr _) ?_
  have hle:=hs.le
  refine Xo 12 rfl (Sp (Gf (hc24 _ (AaD hixl)).1 (Hq _)) hs rfl fun v12 G' _ hR hG89 hs=>?_)
  obtain rfl:=hR
  replace hlg0:=hlg0.mono hG89
  refine Ai hs hle hG89 (lSr _)<|Xt 13 hs rfl (Cl (Bc (Cn7.quoK b rows x) sm.keys) underlying28 sizeOf86 rfl rfl rfl hixl<|Xn 14 rfl (Gw (vs:=(Df (s2.cls[(Bc (Cn7.quoK b rows x) sm.keys)]'hixl) (Xb [UInt8.ofNat x])).map Bb) hs.f3 sizeOf86 rfl rfl (by rw [AaC];exact (Oy (hc24 _ (AaD hixl)).1 (Hq _)).1) (Dk _) hixl fun _ hs =>Xe (Zk [0,1,2,6,8,9,10,24] rfl ?_)))
  refine Zr<|Zy hs (Ya (s:=((x+1:Nat):Int)) rfl<|Wp 1 [] hs rfl ?_)
  have hs:=hs.f4.f1.f4.f4.f4
  refine Zx [0,1,2,6,8,9,10,24] rfl ⟨x+1,Cn7.quP b rows sm x,vle,Vs b10 s2.cls.length cap10,_,hlg0,by omega,by rw [kQ,← hsm],Cn7.qu_one oM hq,rfl,rfl,Bh hs (by rw [← Iy hc24 hixl,zV hs2e hixl];simp)⟩
 refine Wp 4 [0] hs rfl ?_
 have hs:=hs.f4.f4.f4.f4.f4
 obtain rfl:x=256:=by omega
 obtain ⟨LS,hLS⟩:∃ l,sm.least=l:=⟨_,rfl⟩
 obtain ⟨CS,hCS⟩:∃ l,sm.cls=l:=⟨_,rfl⟩
 have hkx:=qk_le hq
 have hll:=hq.ll
 have hc4q:=hq.c4
 have hleq:=hq.le
 rw [hLS] at hs hll hleq
 rw [hCS] at hs hc4q
 have hs:=hs.f1
 obtain ⟨_,hG_hLe,hLe,hs⟩:=hs.fixRow noM
 have hs:=hs.f2
 obtain ⟨_,hG_hfc,hfc,hs⟩:=hs.fixRow noM
 have hsK:=hs
 replace hLe:=hLe.mono hG_hfc
 replace hLe:De _ _ _:=hLe
 obtain ⟨Al,cl,rfl,_⟩:=id hLe
 have hCl:=Px hfc (gG hc4q)
 obtain ⟨Cc,cc,rfl⟩:=Bi.slice hCl
 have hl256:∀ y∈LS,y<256:=fun y hy=>by obtain ⟨i,hi⟩:=List.mem_iff_getElem?.1 hy;exact (hleq i y hi).1
 have hs:=hsK
 clear hsK
 have hs:=hs.f1
 have hsW:=hs.drop
 refine Wu 1 [] hs rfl<|Bg [0,1,2,3,4,5,6] hsW kR ?_
 replace hs:=hs.drew
 replace hsW:=hsW.drew
 refine Xr [0,2] [] hsW rfl ?_
 have hGz:=hG_hLe.trans hG_hfc
 replace hB:=hB.mono hGz
 replace hN:=hN.mono hGz
 replace hA:=hA.mono hGz
 replace hnb:=hnb.mono hGz
 replace hT:=hT.mono hGz
 replace hlg0:=hlg0.mono hGz
 refine Oi 1 3 rfl rfl kR rfl rfl ?_ ?_
 ·
  have hle:=hs.le
  refine Dw (n:=rp.length) (m:=rp.length) hs underlying35 gA rfl rfl rfl oM oM oM fun b93 _ hs=>?_
  have hs:=hs.f1
  have hsW:=hs.drop
  refine Ai hsW hle (gLr _) (Aax _ _)<|Xr [4] [1] hsW rfl<|A_twoN 3 5 rfl rfl kR rfl rfl ?_ ?_
  ·
   have hle:=hs.le
   refine Dw (n:=rp.length) (m:=rp.length) hs underlying30 Pw rfl rfl rfl oM oM oM fun b95 _ hs=>?_
   have hs:=hs.f1
   have hsW:=hs.drop
   refine Ai hsW hle (gLr _) (Aax _ _) ?_
   have hle:=hs.le
   refine Xm 5 rfl (Sd hs rfl (hs.rowOne 2 rfl) fun _ hs=>?_)
   have hsW:=hs.drop
   refine Ai hsW hle (gLr _) (lSr _)<|Xr [6] [2] hsW rfl<|Xn 7 rfl (Sd hs rfl (hs.rowOne 1 rfl) fun _ hs=>Xe (Zk [0,1,6,9,10] rfl<|Wu 4 [] hs rfl<|Zy hs (Ci rfl<|Wp 1 [0] hs rfl<|Zy hs (Yg rfl (hB 0 _ rfl)<|Wp 3 [0] hs rfl ?_))))
   have hs:=hs.f4.f1.f2.f3
   have hs:=hs.wk [_,_,_,_]
   rw [Ox] at hs
   obtain ⟨Gp2,hGp⟩:=hs.name
   subst hGp
   have hB_2:=hB
   have hN_2:=hN
   have hA_2:=hA
   have hnb_2:=hnb
   have hT_2:=hT
   have hLe_2:=hLe
   have hCl_2:=hCl
   have hlg0_2:=hlg0
   refine Zl [0,1,6,9,10,102,103] (fun m E w=>∃ (s:Nat) (vs:List Value) (nx:List (List Nat)) (ac:List Bool) (G2:Ah),Cu Gp2 G2∧s≤rows.length∧(nx,ac)=(List.range s).foldl (quS b rows acc LS) (List.replicate rp.length [],List.replicate rp.length false)∧nx.length=rp.length∧ac.length=rp.length∧Dg G2 vs nx∧m=rows.length-s∧E=⟨[],[(0,Vp b0),(1,(.slice Ab b.length cb)),(6,Vp b6),(9,Vp b9),(10,.slice Al LS.length cl),(102,Vi ((rows.length:Nat):Int)),(103,Vi (s:Int))]⟩∧St ⟨w0,Gp0,Bj []⟩ G2 [.row 79 1 (Vs b93 rp.length rp.length) rp.length vs,.row 4 1 (Vs b95 rp.length rp.length) rp.length (ac.map Da),.blk b9 37 [.slice Cc CS.length cc,Vs b93 rp.length rp.length,Vs b95 rp.length rp.length],.blk b6 37 [Vn,Vn,Vn]] w) rfl (⟨0,_,_,_,_,Cu.refl _,by omega,rfl,AaJ,AaJ,Dg.rep _,rfl,rfl,hs⟩) fun m E w hI=>?_
   obtain ⟨s,vs,nx,ac,G2,hlg2,hs9,hst,hnl,hacl,hrs,rfl,rfl,hs⟩:=hI
   have hB:=hB_2.mono hlg2
   have hN:=hN_2.mono hlg2
   have hA:=hA_2.mono hlg2
   have hnb:=hnb_2.mono hlg2
   have hT:=hT_2.mono hlg2
   have hLe:=hLe_2.mono hlg2
   have hCl:=hCl_2.mono hlg2
   have hlg0:=hlg0_2.mono hlg2
   refine Wt 2 [] hs rfl<|Zy hs (Yc rfl (fun h104=>?_) fun h104=>?_)
   ·
    refine Wp 11 [0,0] hs rfl ?_
    obtain ⟨rr,herr⟩:∃ r,r=rows[s]'oM:=⟨_,rfl⟩
    obtain ⟨hrl,hlrr⟩:=hAO.row rr vW
    obtain ⟨qr,hqr⟩:∃ q,q=Cn7.quRow b rows LS s:=⟨_,rfl⟩
    have hqrl:qr.length=LS.length:=by rw [hqr,Pz]
    refine Wu 4 [] hs rfl<|O_s (Dw (n:=LS.length) (m:=LS.length) hs underlying79 Qx rfl rfl rfl oM oM oM fun b108 _ hs =>Wp 9 [0,0] hs rfl ?_)
    have hs:=hs.f4.f4.f4.f4.f4
    rw [Hy] at hs
    obtain ⟨Gp3,hGp⟩:=hs.name
    subst hGp
    have hB_3:=hB
    have hN_3:=hN
    have hA_3:=hA
    have hnb_3:=hnb
    have hT_3:=hT
    have hLe_3:=hLe
    have hCl_3:=hCl
    have hlg0_3:=hlg0
    have hlg2_3:=hlg2
    refine Zl [0,1,6,9,10,16,17,102,103,109,110,111] (fun m E w=>∃ (j:Nat) (G2:Ah),Cu Gp3 G2∧j≤LS.length∧Dg G2 vs nx∧m=LS.length-j∧E=⟨[],[(0,Vp b0),(1,(.slice Ab b.length cb)),(6,Vp b6),(9,Vp b9),(10,.slice Al LS.length cl),(16,Vi (s:Int)),(17,Vs b108 LS.length LS.length),(102,Vi ((rows.length:Nat):Int)),(103,Vi (s:Int)),(109,.slice Al LS.length cl),(110,Vi ((LS.length:Nat):Int)),(111,Vi (j:Int))]⟩∧St ⟨w0,Gp0,Bj []⟩ G2 [.row 3 1 (Vs b108 LS.length LS.length) LS.length ((qr.take j++List.replicate (LS.length-j) 0).map Bl),.row 79 1 (Vs b93 rp.length rp.length) rp.length vs,.row 4 1 (Vs b95 rp.length rp.length) rp.length (ac.map Da),.blk b9 37 [.slice Cc CS.length cc,Vs b93 rp.length rp.length,Vs b95 rp.length rp.length],.blk b6 37 [Vn,Vn,Vn]] w) rfl (⟨0,_,Cu.refl _,by omega,hrs,rfl,rfl,by rw [AcS,AbA,Nat.sub_zero];exact hs⟩) fun m E w hI=>?_
    obtain ⟨j,G2,hlg3,hj9,hrs,rfl,rfl,hs⟩:=hI
    have hB:=hB_3.mono hlg3
    have hN:=hN_3.mono hlg3
    have hA:=hA_3.mono hlg3
    have hnb:=hnb_3.mono hlg3
    have hT:=hT_3.mono hlg3
    have hLe:=hLe_3.mono hlg3
    have hCl:=hCl_3.mono hlg3
    have hlg0:=hlg0_3.mono hlg3
    have hlg2:=hlg2_3.mono hlg3
    refine Wt 2 [] hs rfl<|Zy hs (Yc rfl (fun h112=>?_) fun h112=>?_)
    ·
     refine Wp 9 [0] hs rfl<|Zy hs (Ct hLe j underlying79 sizeOf3 rfl rfl rfl oM fun p114 hp114=>?_)
     obtain ⟨y,hye⟩:∃ y,y=LS[j]'oM:=⟨_,rfl⟩
     rw [← hye] at hp114
     have hy256:y<256:=hl256 y Z48
     refine Zy hs (Yg rfl (hp114)<|Wp 8 [0] hs rfl<|Zy hs (Ci rfl<|Wp 1 [0] hs rfl<|Zy hs (Yg rfl (hB 0 _ rfl)<|Wp 2 [] hs rfl<|Zy hs (Ca hN s underlying101 sizeOf80 rfl rfl rfl oM fun p125 c125 hp125 hc125 hR125=>?_))))
     rw [← herr] at hR125
     obtain ⟨rfl,_⟩:=hR125
     obtain ⟨z,hze⟩:∃ z,z=rr[y]'oM:=⟨_,rfl⟩
     have hzN:z<rows.length:=hlrr z Z49
     refine Zy hs (Pp y underlying80 sizeOf3 rfl rfl rfl oM<|Zy hs (Yg rfl (hp125 y (Bl z) (by rw [hze];exact bI oM))<|Zy hs (Ct hnb z underlying79 sizeOf3 rfl rfl rfl oM fun p128 hp128=>?_)))
     obtain ⟨u,hue⟩:∃ q,q=b[z]'oM:=⟨_,rfl⟩
     rw [← hue] at hp128
     refine Zy hs (Yg rfl (hp128)<|Zy hs (Be (j) underlying79 sizeOf3 rfl rfl rfl oM<|O_n (Bz hs sizeOf3 rfl rfl rfl oM fun _ hs =>Wp 2 [12,0,1,6,9,10,16,17,102,103,109,110,111] hs rfl<|Zy hs (Ya (s:=((j+1:Nat):Int)) rfl<|Wp 1 [] hs rfl ?_))))
     have hs:=hs.f4.f4.f4.f4.f4
     refine Zx [0,1,6,9,10,16,17,102,103,109,110,111] rfl ⟨j+1,_,hlg3,by omega,hrs,rfl,rfl,by rw [← Ri (show j<qr.length by omega) hqrl (Vj hqr oM oM herr hye oM hze oM hue _),Aad];exact hs⟩
    refine Wp 4 [0] hs rfl ?_
    obtain rfl:j=LS.length:=by omega
    rw [Aaw,AbH,AaX,Aab oM] at hs
    obtain ⟨_,hG_hrow,hrow,hs⟩:=hs.fixRow noM
    obtain ⟨u0,hu0⟩:∃ z,z=b[s]'oM:=⟨_,rfl⟩
    have hu0l:u0<rp.length:=by have:=hbn s oM;rwa [Cn7.gD (show s<b.length by omega),← hu0] at this
    replace hrow:De _ (Vs b108 LS.length LS.length) qr:=(show De _ _ _ from by unfold De;rw [hqrl];exact hrow)
    have hsW:=hs.drop
    refine Bg [0,1,2,3,4,5,6,7,8,9,10,11,12,13,14,15,16,17,18,19,20,21,22] hsW kR ?_
    replace hs:=hs.drew
    replace hsW:=hsW.drew
    refine Xr [0,1,2,3] [1,1] hsW rfl ?_
    replace hnb:=hnb.mono hG_hrow
    refine Xt 4 hsW rfl (Ct hnb s underlying79 sizeOf3 rfl rfl rfl oM fun p136 hp136=>?_)
    rw [← hu0] at hp136
    refine Xt 5 hsW rfl (Yg rfl (hp136)<|Xr [6,7,8,9] [2,1] hsW rfl<|Xt 10 hsW rfl (Ct hnb s underlying79 sizeOf3 rfl rfl rfl oM fun p142 hp142=>?_))
    rw [← hu0] at hp142
    refine Xt 11 hsW rfl (Yg rfl (hp142)<|Xr [12,13] [] hsW rfl<|Xt 14 hsW rfl (Ci rfl<|Xr [15] [1] hsW rfl ?_))
    replace hB:=hB.mono hG_hrow
    refine Xt 16 hsW rfl (Yg rfl (hB 1 _ rfl)<|Xr [17] [] hsW rfl ?_)
    replace hA:=hA.mono hG_hrow
    refine Xt 18 hsW rfl (Ee s underlying30 sizeOf4 hA rfl rfl rfl (Dm oM) fun p150 hp150 =>Xt 19 hsW rfl (Yg rfl (hp150)<|Xt 20 hsW rfl (Be (u0) underlying35 sizeOf79 rfl rfl rfl oM ?_)))
    have hle:=hs.le
    refine Xm 21 rfl (Bz hs sizeOf79 rfl rfl rfl oM fun _ hs =>Ai hs hle (gLr _) (Aax _ _)<|Xt 22 hs rfl (Be (u0) underlying30 sizeOf4 rfl rfl rfl oM<|Xn 23 rfl (Bz hs.f1 sizeOf4 rfl rfl rfl oM fun _ hs =>Xe (Zk [0,1,6,9,10,102,103] rfl ?_))))
    refine Zr<|Zy hs (Ya (s:=((s+1:Nat):Int)) rfl<|Wp 1 [] hs rfl ?_)
    have hs:=hs.f3.f3.f2.f3
    replace hrs:=hrs.mono hG_hrow
    replace hlg2:=hlg2.mono hG_hrow
    refine Zx [0,1,6,9,10,102,103] rfl ⟨s+1,vs.set u0 (Vs b108 LS.length LS.length),nx.set u0 qr,ac.set u0 acc[s],_,hlg2,by omega,by rw [bJ,← hst];unfold quS;rw [Cn7.gD (show s<b.length by omega),← hu0,Cn7.gD (show s<acc.length by omega),← hqr],by rw [AaP];exact hnl,by rw [AaP];exact hacl,Cw.set hrow u0 hrs,rfl,rfl,by rw [Aad];exact hs⟩
   refine Wp 4 [0] hs rfl ?_
   obtain rfl:s=rows.length:=by omega
   have hQ:Cn7.quoF b rows acc rp.length=⟨CS,nx,ac⟩:=by show (⟨(Cn7.quC b rows).cls,(Cn7.quR b rows acc (Cn7.quC b rows).least rp.length).1,(Cn7.quR b rows acc (Cn7.quC b rows).least rp.length).2⟩:Cy)=_;rw [oA,show Cn7.quC b rows=sm from hsm.symm,hLS,hCS,← hst]
   obtain ⟨D,hD,rfl⟩:=bK oM hR
   obtain ⟨hdok,hdn,_⟩:=Cn7.quo_ok hAO S oM
   rw [hQ] at hD hdok hdn
   have hvd:=Cn7.validD_of hdok oM
   have hokd:(Av (⟨CS,nx,ac⟩:Cy)).ok:=(Cn7.tab_ok hdok).tb (by show nx.length≤5000;omega)
   obtain ⟨_,hG_hfn,hfn,hs⟩:=hs.fixRow noM
   obtain ⟨_,hG_hfa,hfa,hs⟩:=hs.fixRow noM
   replace hrs:=hrs.mono (hG_hfn.trans hG_hfa)
   replace hfn:=hfn.mono hG_hfa
   have hnx:=Dg.fin hfn oM hrs
   have hac:Dt _ (Vs b95 rp.length rp.length) ac:=(show Dt _ _ _ from by unfold Dt;rw [hacl];exact hfa)
   refine Wu 3 [0] hs rfl ?_
   have hGz:=hG_hfn.trans hG_hfa
   replace hT:=hT.mono hGz
   replace hCl:=hCl.mono hGz
   refine O_s (Sp (Xk (d:=⟨CS,nx,ac⟩) ⟨_,_,_,rfl,hCl,hnx,hac⟩ hvd hokd hD hT) hs rfl fun v13 G' _ hR hG156 hs=>?_)
   obtain ⟨vd,rfl,hz⟩:=hR
   obtain ⟨zc,zn,za,rfl,hzC,hzN,hzA⟩:=hz
   obtain ⟨Cz,cz,rfl⟩:=Bi.slice hzC
   obtain ⟨Nz,nz,rfl⟩:=Bi.slice hzN
   obtain ⟨Az,az,rfl,_⟩:=id hzA
   refine Wp 2 [] hs rfl<|O_n (Sg hs.f1 rfl (rfl) fun _ hs=>Wp 2 [0] hs rfl<|As ?_)
   have hr:=hs
   refine By (vs:=[_,_]) results110 rfl ⟨Bq 0 hr isAgg37 sizeOf37 rfl (cs:=[_,_,_]) rfl rfl,rfl,trivial⟩ ?_
   try dsimp only [tup]
   exact hs.q ⟨_,rfl,_,_,_,rfl,hzC,hzN,hzA⟩
  have hle:=hs.le
  refine Gc hs sizeOf35 rfl rfl (hs.rowOne 1 rfl) sM (cs':=[_,_,_]) rfl fun _ hs=>?_
  have hsW:=hs.drop
  refine Ai hsW hle (gLr _) (lSr _) ?_
  have hle:=hs.le
  refine Xo 3 rfl (Dw (n:=rp.length) (m:=rp.length) hs underlying30 Pw rfl rfl rfl oM oM oM fun b95 _ hs=>?_)
  have hs:=hs.f1
  have hsW:=hs.drop
  refine Ai hsW hle (gLr _) (Aax _ _)<|Xr [6] [2] hsW rfl<|Xn 7 rfl (Sd hs rfl (hs.rowOne 1 rfl) fun _ hs=>Xe (Zk [0,1,6,9,10] rfl<|Wu 4 [] hs rfl<|Zy hs (Ci rfl<|Wp 1 [0] hs rfl<|Zy hs (Yg rfl (hB 0 _ rfl)<|Wp 3 [0] hs rfl ?_))))
  have hs:=hs.f4.f1.f2.f3
  have hs:=hs.wk [_,_,_,_]
  rw [Ox] at hs
  obtain ⟨Gp2,hGp⟩:=hs.name
  subst hGp
  have hB_2:=hB
  have hN_2:=hN
  have hA_2:=hA
  have hnb_2:=hnb
  have hT_2:=hT
  have hLe_2:=hLe
  have hCl_2:=hCl
  have hlg0_2:=hlg0
  refine Zl [0,1,6,9,10,102,103] (fun m E w=>∃ (s:Nat) (vs:List Value) (nx:List (List Nat)) (ac:List Bool) (G2:Ah),Cu Gp2 G2∧s≤rows.length∧(nx,ac)=(List.range s).foldl (quS b rows acc LS) (List.replicate rp.length [],List.replicate rp.length false)∧nx.length=rp.length∧ac.length=rp.length∧Dg G2 vs nx∧m=rows.length-s∧E=⟨[],[(0,Vp b0),(1,(.slice Ab b.length cb)),(6,Vp b6),(9,Vp b9),(10,.slice Al LS.length cl),(102,Vi ((rows.length:Nat):Int)),(103,Vi (s:Int))]⟩∧St ⟨w0,Gp0,Bj []⟩ G2 [.row 79 1 (Vs b93 rp.length rp.length) rp.length vs,.row 4 1 (Vs b95 rp.length rp.length) rp.length (ac.map Da),.blk b9 37 [.slice Cc CS.length cc,Vs b93 rp.length rp.length,Vs b95 rp.length rp.length],.blk b6 37 [Vn,Vn,Vn]] w) rfl (⟨0,_,_,_,_,Cu.refl _,by omega,rfl,AaJ,AaJ,Dg.rep _,rfl,rfl,hs⟩) fun m E w hI=>?_
  obtain ⟨s,vs,nx,ac,G2,hlg2,hs9,hst,hnl,hacl,hrs,rfl,rfl,hs⟩:=hI
  have hB:=hB_2.mono hlg2
  have hN:=hN_2.mono hlg2
  have hA:=hA_2.mono hlg2
  have hnb:=hnb_2.mono hlg2
  have hT:=hT_2.mono hlg2
  have hLe:=hLe_2.mono hlg2
  have hCl:=hCl_2.mono hlg2
  have hlg0:=hlg0_2.mono hlg2
  refine Wt 2 [] hs rfl<|Zy hs (Yc rfl (fun h104=>?_) fun h104=>?_)
  ·
   refine Wp 11 [0,0] hs rfl ?_
   obtain ⟨rr,herr⟩:∃ r,r=rows[s]'oM:=⟨_,rfl⟩
   obtain ⟨hrl,hlrr⟩:=hAO.row rr vW
   obtain ⟨qr,hqr⟩:∃ q,q=Cn7.quRow b rows LS s:=⟨_,rfl⟩
   have hqrl:qr.length=LS.length:=by rw [hqr,Pz]
   refine Wu 4 [] hs rfl<|O_s (Dw (n:=LS.length) (m:=LS.length) hs underlying79 Qx rfl rfl rfl oM oM oM fun b108 _ hs =>Wp 9 [0,0] hs rfl ?_)
   have hs:=hs.f4.f4.f4.f4.f4
   rw [Hy] at hs
   obtain ⟨Gp3,hGp⟩:=hs.name
   subst hGp
   have hB_3:=hB
   have hN_3:=hN
   have hA_3:=hA
   have hnb_3:=hnb
   have hT_3:=hT
   have hLe_3:=hLe
   have hCl_3:=hCl
   have hlg0_3:=hlg0
   have hlg2_3:=hlg2
   refine Zl [0,1,6,9,10,16,17,102,103,109,110,111] (fun m E w=>∃ (j:Nat) (G2:Ah),Cu Gp3 G2∧j≤LS.length∧Dg G2 vs nx∧m=LS.length-j∧E=⟨[],[(0,Vp b0),(1,(.slice Ab b.length cb)),(6,Vp b6),(9,Vp b9),(10,.slice Al LS.length cl),(16,Vi (s:Int)),(17,Vs b108 LS.length LS.length),(102,Vi ((rows.length:Nat):Int)),(103,Vi (s:Int)),(109,.slice Al LS.length cl),(110,Vi ((LS.length:Nat):Int)),(111,Vi (j:Int))]⟩∧St ⟨w0,Gp0,Bj []⟩ G2 [.row 3 1 (Vs b108 LS.length LS.length) LS.length ((qr.take j++List.replicate (LS.length-j) 0).map Bl),.row 79 1 (Vs b93 rp.length rp.length) rp.length vs,.row 4 1 (Vs b95 rp.length rp.length) rp.length (ac.map Da),.blk b9 37 [.slice Cc CS.length cc,Vs b93 rp.length rp.length,Vs b95 rp.length rp.length],.blk b6 37 [Vn,Vn,Vn]] w) rfl (⟨0,_,Cu.refl _,by omega,hrs,rfl,rfl,by rw [AcS,AbA,Nat.sub_zero];exact hs⟩) fun m E w hI=>?_
   obtain ⟨j,G2,hlg3,hj9,hrs,rfl,rfl,hs⟩:=hI
   have hB:=hB_3.mono hlg3
   have hN:=hN_3.mono hlg3
   have hA:=hA_3.mono hlg3
   have hnb:=hnb_3.mono hlg3
   have hT:=hT_3.mono hlg3
   have hLe:=hLe_3.mono hlg3
   have hCl:=hCl_3.mono hlg3
   have hlg0:=hlg0_3.mono hlg3
   have hlg2:=hlg2_3.mono hlg3
   refine Wt 2 [] hs rfl<|Zy hs (Yc rfl (fun h112=>?_) fun h112=>?_)
   ·
    refine Wp 9 [0] hs rfl<|Zy hs (Ct hLe j underlying79 sizeOf3 rfl rfl rfl oM fun p114 hp114=>?_)
    obtain ⟨y,hye⟩:∃ y,y=LS[j]'oM:=⟨_,rfl⟩
    rw [← hye] at hp114
    have hy256:y<256:=hl256 y Z48
    refine Zy hs (Yg rfl (hp114)<|Wp 8 [0] hs rfl<|Zy hs (Ci rfl<|Wp 1 [0] hs rfl<|Zy hs (Yg rfl (hB 0 _ rfl)<|Wp 2 [] hs rfl<|Zy hs (Ca hN s underlying101 sizeOf80 rfl rfl rfl oM fun p125 c125 hp125 hc125 hR125=>?_))))
    rw [← herr] at hR125
    obtain ⟨rfl,_⟩:=hR125
    obtain ⟨z,hze⟩:∃ z,z=rr[y]'oM:=⟨_,rfl⟩
    have hzN:z<rows.length:=hlrr z Z49
    refine Zy hs (Pp y underlying80 sizeOf3 rfl rfl rfl oM<|Zy hs (Yg rfl (hp125 y (Bl z) (by rw [hze];exact bI oM))<|Zy hs (Ct hnb z underlying79 sizeOf3 rfl rfl rfl oM fun p128 hp128=>?_)))
    obtain ⟨u,hue⟩:∃ q,q=b[z]'oM:=⟨_,rfl⟩
    rw [← hue] at hp128
    refine Zy hs (Yg rfl (hp128)<|Zy hs (Be (j) underlying79 sizeOf3 rfl rfl rfl oM<|O_n (Bz hs sizeOf3 rfl rfl rfl oM fun _ hs =>Wp 2 [12,0,1,6,9,10,16,17,102,103,109,110,111] hs rfl<|Zy hs (Ya (s:=((j+1:Nat):Int)) rfl<|Wp 1 [] hs rfl ?_))))
    have hs:=hs.f4.f4.f4.f4.f4
    refine Zx [0,1,6,9,10,16,17,102,103,109,110,111] rfl ⟨j+1,_,hlg3,by omega,hrs,rfl,rfl,by rw [← Ri (show j<qr.length by omega) hqrl (Vj hqr oM oM herr hye oM hze oM hue _),Aad];exact hs⟩
   refine Wp 4 [0] hs rfl ?_
   obtain rfl:j=LS.length:=by omega
   rw [Aaw,AbH,AaX,Aab oM] at hs
   obtain ⟨_,hG_hrow,hrow,hs⟩:=hs.fixRow noM
   obtain ⟨u0,hu0⟩:∃ z,z=b[s]'oM:=⟨_,rfl⟩
   have hu0l:u0<rp.length:=by have:=hbn s oM;rwa [Cn7.gD (show s<b.length by omega),← hu0] at this
   replace hrow:De _ (Vs b108 LS.length LS.length) qr:=(show De _ _ _ from by unfold De;rw [hqrl];exact hrow)
   have hsW:=hs.drop
   refine Bg [0,1,2,3,4,5,6,7,8,9,10,11,12,13,14,15,16,17,18,19,20,21,22] hsW kR ?_
   replace hs:=hs.drew
   replace hsW:=hsW.drew
   refine Xr [0,1,2,3] [1,1] hsW rfl ?_
   replace hnb:=hnb.mono hG_hrow
   refine Xt 4 hsW rfl (Ct hnb s underlying79 sizeOf3 rfl rfl rfl oM fun p136 hp136=>?_)
   rw [← hu0] at hp136
   refine Xt 5 hsW rfl (Yg rfl (hp136)<|Xr [6,7,8,9] [2,1] hsW rfl<|Xt 10 hsW rfl (Ct hnb s underlying79 sizeOf3 rfl rfl rfl oM fun p142 hp142=>?_))
   rw [← hu0] at hp142
   refine Xt 11 hsW rfl (Yg rfl (hp142)<|Xr [12,13] [] hsW rfl<|Xt 14 hsW rfl (Ci rfl<|Xr [15] [1] hsW rfl ?_))
   replace hB:=hB.mono hG_hrow
   refine Xt 16 hsW rfl (Yg rfl (hB 1 _ rfl)<|Xr [17] [] hsW rfl ?_)
   replace hA:=hA.mono hG_hrow
   refine Xt 18 hsW rfl (Ee s underlying30 sizeOf4 hA rfl rfl rfl (Dm oM) fun p150 hp150 =>Xt 19 hsW rfl (Yg rfl (hp150)<|Xt 20 hsW rfl (Be (u0) underlying35 sizeOf79 rfl rfl rfl oM ?_)))
   have hle:=hs.le
   refine Xm 21 rfl (Bz hs sizeOf79 rfl rfl rfl oM fun _ hs =>Ai hs hle (gLr _) (Aax _ _)<|Xt 22 hs rfl (Be (u0) underlying30 sizeOf4 rfl rfl rfl oM<|Xn 23 rfl (Bz hs.f1 sizeOf4 rfl rfl rfl oM fun _ hs =>Xe (Zk [0,1,6,9,10,102,103] rfl ?_))))
   refine Zr<|Zy hs (Ya (s:=((s+1:Nat):Int)) rfl<|Wp 1 [] hs rfl ?_)
   have hs:=hs.f3.f3.f2.f3
   replace hrs:=hrs.mono hG_hrow
   replace hlg2:=hlg2.mono hG_hrow
   refine Zx [0,1,6,9,10,102,103] rfl ⟨s+1,vs.set u0 (Vs b108 LS.length LS.length),nx.set u0 qr,ac.set u0 acc[s],_,hlg2,by omega,by rw [bJ,← hst];unfold quS;rw [Cn7.gD (show s<b.length by omega),← hu0,Cn7.gD (show s<acc.length by omega),← hqr],by rw [AaP];exact hnl,by rw [AaP];exact hacl,Cw.set hrow u0 hrs,rfl,rfl,by rw [Aad];exact hs⟩
  refine Wp 4 [0] hs rfl ?_
  obtain rfl:s=rows.length:=by omega
  have hQ:Cn7.quoF b rows acc rp.length=⟨CS,nx,ac⟩:=by show (⟨(Cn7.quC b rows).cls,(Cn7.quR b rows acc (Cn7.quC b rows).least rp.length).1,(Cn7.quR b rows acc (Cn7.quC b rows).least rp.length).2⟩:Cy)=_;rw [oA,show Cn7.quC b rows=sm from hsm.symm,hLS,hCS,← hst]
  obtain ⟨D,hD,rfl⟩:=bK oM hR
  obtain ⟨hdok,hdn,_⟩:=Cn7.quo_ok hAO S oM
  rw [hQ] at hD hdok hdn
  have hvd:=Cn7.validD_of hdok oM
  have hokd:(Av (⟨CS,nx,ac⟩:Cy)).ok:=(Cn7.tab_ok hdok).tb (by show nx.length≤5000;omega)
  obtain ⟨_,hG_hfn,hfn,hs⟩:=hs.fixRow noM
  obtain ⟨_,hG_hfa,hfa,hs⟩:=hs.fixRow noM
  replace hrs:=hrs.mono (hG_hfn.trans hG_hfa)
  replace hfn:=hfn.mono hG_hfa
  have hnx:=Dg.fin hfn oM hrs
  have hac:Dt _ (Vs b95 rp.length rp.length) ac:=(show Dt _ _ _ from by unfold Dt;rw [hacl];exact hfa)
  refine Wu 3 [0] hs rfl ?_
  have hGz:=hG_hfn.trans hG_hfa
  replace hT:=hT.mono hGz
  replace hCl:=hCl.mono hGz
  refine O_s (Sp (Xk (d:=⟨CS,nx,ac⟩) ⟨_,_,_,rfl,hCl,hnx,hac⟩ hvd hokd hD hT) hs rfl fun v14 G' _ hR hG156 hs=>?_)
  obtain ⟨vd,rfl,hz⟩:=hR
  obtain ⟨zc,zn,za,rfl,hzC,hzN,hzA⟩:=hz
  obtain ⟨Cz,cz,rfl⟩:=Bi.slice hzC
  obtain ⟨Nz,nz,rfl⟩:=Bi.slice hzN
  obtain ⟨Az,az,rfl,_⟩:=id hzA
  refine Wp 2 [] hs rfl<|O_n (Sg hs.f1 rfl (rfl) fun _ hs=>Wp 2 [0] hs rfl<|As ?_)
  have hr:=hs
  refine By (vs:=[_,_]) results110 rfl ⟨Bq 0 hr isAgg37 sizeOf37 rfl (cs:=[_,_,_]) rfl rfl,rfl,trivial⟩ ?_
  try dsimp only [tup]
  exact hs.q ⟨_,rfl,_,_,_,rfl,hzC,hzN,hzA⟩
 have hle:=hs.le
 refine Dw (n:=rp.length) (m:=rp.length) hs underlying30 Pw rfl rfl rfl oM oM oM fun b95 _ hs=>?_
 have hs:=hs.f1
 have hsW:=hs.drop
 refine Ai hsW hle (gLr _) (Aax _ _) ?_
 have hle:=hs.le
 refine Xo 1 rfl (Dw (n:=rp.length) (m:=rp.length) hs underlying35 gA rfl rfl rfl oM oM oM fun b93 _ hs=>?_)
 have hs:=hs.f1
 have hsW:=hs.drop
 refine Ai hsW hle (gLr _) (Aax _ _)<|Xr [4] [1] hsW rfl ?_
 have hle:=hs.le
 refine Xm 5 rfl (Sd hs rfl (hs.rowOne 1 rfl) fun _ hs=>?_)
 have hsW:=hs.drop
 refine Ai hsW hle (gLr _) (lSr _)<|Xr [6] [2] hsW rfl<|Xn 7 rfl (Sd hs rfl (hs.rowOne 2 rfl) fun _ hs=>Xe (Zk [0,1,6,9,10] rfl<|Wu 4 [] hs rfl<|Zy hs (Ci rfl<|Wp 1 [0] hs rfl<|Zy hs (Yg rfl (hB 0 _ rfl)<|Wp 3 [0] hs rfl ?_))))
 have hs:=hs.f4.f1.f3.f3
 have hs:=hs.wk [_,_,_,_]
 rw [Ox] at hs
 obtain ⟨Gp2,hGp⟩:=hs.name
 subst hGp
 have hB_2:=hB
 have hN_2:=hN
 have hA_2:=hA
 have hnb_2:=hnb
 have hT_2:=hT
 have hLe_2:=hLe
 have hCl_2:=hCl
 have hlg0_2:=hlg0
 refine Zl [0,1,6,9,10,102,103] (fun m E w=>∃ (s:Nat) (vs:List Value) (nx:List (List Nat)) (ac:List Bool) (G2:Ah),Cu Gp2 G2∧s≤rows.length∧(nx,ac)=(List.range s).foldl (quS b rows acc LS) (List.replicate rp.length [],List.replicate rp.length false)∧nx.length=rp.length∧ac.length=rp.length∧Dg G2 vs nx∧m=rows.length-s∧E=⟨[],[(0,Vp b0),(1,(.slice Ab b.length cb)),(6,Vp b6),(9,Vp b9),(10,.slice Al LS.length cl),(102,Vi ((rows.length:Nat):Int)),(103,Vi (s:Int))]⟩∧St ⟨w0,Gp0,Bj []⟩ G2 [.row 79 1 (Vs b93 rp.length rp.length) rp.length vs,.row 4 1 (Vs b95 rp.length rp.length) rp.length (ac.map Da),.blk b9 37 [.slice Cc CS.length cc,Vs b93 rp.length rp.length,Vs b95 rp.length rp.length],.blk b6 37 [Vn,Vn,Vn]] w) rfl (⟨0,_,_,_,_,Cu.refl _,by omega,rfl,AaJ,AaJ,Dg.rep _,rfl,rfl,hs⟩) fun m E w hI=>?_
 obtain ⟨s,vs,nx,ac,G2,hlg2,hs9,hst,hnl,hacl,hrs,rfl,rfl,hs⟩:=hI
 have hB:=hB_2.mono hlg2
 have hN:=hN_2.mono hlg2
 have hA:=hA_2.mono hlg2
 have hnb:=hnb_2.mono hlg2
 have hT:=hT_2.mono hlg2
 have hLe:=hLe_2.mono hlg2
 have hCl:=hCl_2.mono hlg2
 have hlg0:=hlg0_2.mono hlg2
 refine Wt 2 [] hs rfl<|Zy hs (Yc rfl (fun h104=>?_) fun h104=>?_)
 ·
  refine Wp 11 [0,0] hs rfl ?_
  obtain ⟨rr,herr⟩:∃ r,r=rows[s]'oM:=⟨_,rfl⟩
  obtain ⟨hrl,hlrr⟩:=hAO.row rr vW
  obtain ⟨qr,hqr⟩:∃ q,q=Cn7.quRow b rows LS s:=⟨_,rfl⟩
  have hqrl:qr.length=LS.length:=by rw [hqr,Pz]
  refine Wu 4 [] hs rfl<|O_s (Dw (n:=LS.length) (m:=LS.length) hs underlying79 Qx rfl rfl rfl oM oM oM fun b108 _ hs =>Wp 9 [0,0] hs rfl ?_)
  have hs:=hs.f4.f4.f4.f4.f4
  rw [Hy] at hs
  obtain ⟨Gp3,hGp⟩:=hs.name
  subst hGp
  have hB_3:=hB
  have hN_3:=hN
  have hA_3:=hA
  have hnb_3:=hnb
  have hT_3:=hT
  have hLe_3:=hLe
  have hCl_3:=hCl
  have hlg0_3:=hlg0
  have hlg2_3:=hlg2
  refine Zl [0,1,6,9,10,16,17,102,103,109,110,111] (fun m E w=>∃ (j:Nat) (G2:Ah),Cu Gp3 G2∧j≤LS.length∧Dg G2 vs nx∧m=LS.length-j∧E=⟨[],[(0,Vp b0),(1,(.slice Ab b.length cb)),(6,Vp b6),(9,Vp b9),(10,.slice Al LS.length cl),(16,Vi (s:Int)),(17,Vs b108 LS.length LS.length),(102,Vi ((rows.length:Nat):Int)),(103,Vi (s:Int)),(109,.slice Al LS.length cl),(110,Vi ((LS.length:Nat):Int)),(111,Vi (j:Int))]⟩∧St ⟨w0,Gp0,Bj []⟩ G2 [.row 3 1 (Vs b108 LS.length LS.length) LS.length ((qr.take j++List.replicate (LS.length-j) 0).map Bl),.row 79 1 (Vs b93 rp.length rp.length) rp.length vs,.row 4 1 (Vs b95 rp.length rp.length) rp.length (ac.map Da),.blk b9 37 [.slice Cc CS.length cc,Vs b93 rp.length rp.length,Vs b95 rp.length rp.length],.blk b6 37 [Vn,Vn,Vn]] w) rfl (⟨0,_,Cu.refl _,by omega,hrs,rfl,rfl,by rw [AcS,AbA,Nat.sub_zero];exact hs⟩) fun m E w hI=>?_
  obtain ⟨j,G2,hlg3,hj9,hrs,rfl,rfl,hs⟩:=hI
  have hB:=hB_3.mono hlg3
  have hN:=hN_3.mono hlg3
  have hA:=hA_3.mono hlg3
  have hnb:=hnb_3.mono hlg3
  have hT:=hT_3.mono hlg3
  have hLe:=hLe_3.mono hlg3
  have hCl:=hCl_3.mono hlg3
  have hlg0:=hlg0_3.mono hlg3
  have hlg2:=hlg2_3.mono hlg3
  refine Wt 2 [] hs rfl<|Zy hs (Yc rfl (fun h112=>?_) fun h112=>?_)
  ·
   refine Wp 9 [0] hs rfl<|Zy hs (Ct hLe j underlying79 sizeOf3 rfl rfl rfl oM fun p114 hp114=>?_)
   obtain ⟨y,hye⟩:∃ y,y=LS[j]'oM:=⟨_,rfl⟩
   rw [← hye] at hp114
   have hy256:y<256:=hl256 y Z48
   refine Zy hs (Yg rfl (hp114)<|Wp 8 [0] hs rfl<|Zy hs (Ci rfl<|Wp 1 [0] hs rfl<|Zy hs (Yg rfl (hB 0 _ rfl)<|Wp 2 [] hs rfl<|Zy hs (Ca hN s underlying101 sizeOf80 rfl rfl rfl oM fun p125 c125 hp125 hc125 hR125=>?_))))
   rw [← herr] at hR125
   obtain ⟨rfl,_⟩:=hR125
   obtain ⟨z,hze⟩:∃ z,z=rr[y]'oM:=⟨_,rfl⟩
   have hzN:z<rows.length:=hlrr z Z49
   refine Zy hs (Pp y underlying80 sizeOf3 rfl rfl rfl oM<|Zy hs (Yg rfl (hp125 y (Bl z) (by rw [hze];exact bI oM))<|Zy hs (Ct hnb z underlying79 sizeOf3 rfl rfl rfl oM fun p128 hp128=>?_)))
   obtain ⟨u,hue⟩:∃ q,q=b[z]'oM:=⟨_,rfl⟩
   rw [← hue] at hp128
   refine Zy hs (Yg rfl (hp128)<|Zy hs (Be (j) underlying79 sizeOf3 rfl rfl rfl oM<|O_n (Bz hs sizeOf3 rfl rfl rfl oM fun _ hs =>Wp 2 [12,0,1,6,9,10,16,17,102,103,109,110,111] hs rfl<|Zy hs (Ya (s:=((j+1:Nat):Int)) rfl<|Wp 1 [] hs rfl ?_))))
   have hs:=hs.f4.f4.f4.f4.f4
   refine Zx [0,1,6,9,10,16,17,102,103,109,110,111] rfl ⟨j+1,_,hlg3,by omega,hrs,rfl,rfl,by rw [← Ri (show j<qr.length by omega) hqrl (Vj hqr oM oM herr hye oM hze oM hue _),Aad];exact hs⟩
  refine Wp 4 [0] hs rfl ?_
  obtain rfl:j=LS.length:=by omega
  rw [Aaw,AbH,AaX,Aab oM] at hs
  obtain ⟨_,hG_hrow,hrow,hs⟩:=hs.fixRow noM
  obtain ⟨u0,hu0⟩:∃ z,z=b[s]'oM:=⟨_,rfl⟩
  have hu0l:u0<rp.length:=by have:=hbn s oM;rwa [Cn7.gD (show s<b.length by omega),← hu0] at this
  replace hrow:De _ (Vs b108 LS.length LS.length) qr:=(show De _ _ _ from by unfold De;rw [hqrl];exact hrow)
  have hsW:=hs.drop
  refine Bg [0,1,2,3,4,5,6,7,8,9,10,11,12,13,14,15,16,17,18,19,20,21,22] hsW kR ?_
  replace hs:=hs.drew
  replace hsW:=hsW.drew
  refine Xr [0,1,2,3] [1,1] hsW rfl ?_
  replace hnb:=hnb.mono hG_hrow
  refine Xt 4 hsW rfl (Ct hnb s underlying79 sizeOf3 rfl rfl rfl oM fun p136 hp136=>?_)
  rw [← hu0] at hp136
  refine Xt 5 hsW rfl (Yg rfl (hp136)<|Xr [6,7,8,9] [2,1] hsW rfl<|Xt 10 hsW rfl (Ct hnb s underlying79 sizeOf3 rfl rfl rfl oM fun p142 hp142=>?_))
  rw [← hu0] at hp142
  refine Xt 11 hsW rfl (Yg rfl (hp142)<|Xr [12,13] [] hsW rfl<|Xt 14 hsW rfl (Ci rfl<|Xr [15] [1] hsW rfl ?_))
  replace hB:=hB.mono hG_hrow
  refine Xt 16 hsW rfl (Yg rfl (hB 1 _ rfl)<|Xr [17] [] hsW rfl ?_)
  replace hA:=hA.mono hG_hrow
  refine Xt 18 hsW rfl (Ee s underlying30 sizeOf4 hA rfl rfl rfl (Dm oM) fun p150 hp150 =>Xt 19 hsW rfl (Yg rfl (hp150)<|Xt 20 hsW rfl (Be (u0) underlying35 sizeOf79 rfl rfl rfl oM ?_)))
  have hle:=hs.le
  refine Xm 21 rfl (Bz hs sizeOf79 rfl rfl rfl oM fun _ hs =>Ai hs hle (gLr _) (Aax _ _)<|Xt 22 hs rfl (Be (u0) underlying30 sizeOf4 rfl rfl rfl oM<|Xn 23 rfl (Bz hs.f1 sizeOf4 rfl rfl rfl oM fun _ hs =>Xe (Zk [0,1,6,9,10,102,103] rfl ?_))))
  refine Zr<|Zy hs (Ya (s:=((s+1:Nat):Int)) rfl<|Wp 1 [] hs rfl ?_)
  have hs:=hs.f3.f3.f2.f3
  replace hrs:=hrs.mono hG_hrow
  replace hlg2:=hlg2.mono hG_hrow
  refine Zx [0,1,6,9,10,102,103] rfl ⟨s+1,vs.set u0 (Vs b108 LS.length LS.length),nx.set u0 qr,ac.set u0 acc[s],_,hlg2,by omega,by rw [bJ,← hst];unfold quS;rw [Cn7.gD (show s<b.length by omega),← hu0,Cn7.gD (show s<acc.length by omega),← hqr],by rw [AaP];exact hnl,by rw [AaP];exact hacl,Cw.set hrow u0 hrs,rfl,rfl,by rw [Aad];exact hs⟩
 refine Wp 4 [0] hs rfl ?_
 obtain rfl:s=rows.length:=by omega
 have hQ:Cn7.quoF b rows acc rp.length=⟨CS,nx,ac⟩:=by show (⟨(Cn7.quC b rows).cls,(Cn7.quR b rows acc (Cn7.quC b rows).least rp.length).1,(Cn7.quR b rows acc (Cn7.quC b rows).least rp.length).2⟩:Cy)=_;rw [oA,show Cn7.quC b rows=sm from hsm.symm,hLS,hCS,← hst]
 obtain ⟨D,hD,rfl⟩:=bK oM hR
 obtain ⟨hdok,hdn,_⟩:=Cn7.quo_ok hAO S oM
 rw [hQ] at hD hdok hdn
 have hvd:=Cn7.validD_of hdok oM
 have hokd:(Av (⟨CS,nx,ac⟩:Cy)).ok:=(Cn7.tab_ok hdok).tb (by show nx.length≤5000;omega)
 obtain ⟨_,hG_hfn,hfn,hs⟩:=hs.fixRow noM
 obtain ⟨_,hG_hfa,hfa,hs⟩:=hs.fixRow noM
 replace hrs:=hrs.mono (hG_hfn.trans hG_hfa)
 replace hfn:=hfn.mono hG_hfa
 have hnx:=Dg.fin hfn oM hrs
 have hac:Dt _ (Vs b95 rp.length rp.length) ac:=(show Dt _ _ _ from by unfold Dt;rw [hacl];exact hfa)
 refine Wu 3 [0] hs rfl ?_
 have hGz:=hG_hfn.trans hG_hfa
 replace hT:=hT.mono hGz
 replace hCl:=hCl.mono hGz
 refine O_s (Sp (Xk (d:=⟨CS,nx,ac⟩) ⟨_,_,_,rfl,hCl,hnx,hac⟩ hvd hokd hD hT) hs rfl fun v15 G' _ hR hG156 hs=>?_)
 obtain ⟨vd,rfl,hz⟩:=hR
 obtain ⟨zc,zn,za,rfl,hzC,hzN,hzA⟩:=hz
 obtain ⟨Cz,cz,rfl⟩:=Bi.slice hzC
 obtain ⟨Nz,nz,rfl⟩:=Bi.slice hzN
 obtain ⟨Az,az,rfl,_⟩:=id hzA
 refine Wp 2 [] hs rfl<|O_n (Sg hs.f1 rfl (rfl) fun _ hs=>Wp 2 [0] hs rfl<|As ?_)
 have hr:=hs
 refine By (vs:=[_,_]) results110 rfl ⟨Bq 0 hr isAgg37 sizeOf37 rfl (cs:=[_,_,_]) rfl rfl,rfl,trivial⟩ ?_
 try dsimp only [tup]
 exact hs.q ⟨_,rfl,_,_,_,rfl,hzC,hzN,hzA⟩
theorem zY {b0:Nat} {rows:List (List Nat)} {acc:List Bool} (hTA:TA G b0 rows acc) (hAO:Cn7.AOk rows acc) (hsz:rows.length≤5000) (hT:Tab G) :
  Ba prog 54 [Vp b0] G [] fun r G' H'=>H'=[]∧∃ R,Cn7.minF rows acc=some R∧DE G' r R:=by
 obtain ⟨un,ua,hB,hN,hA⟩:=hTA
 obtain ⟨An,cn,rfl⟩:=hN.slice
 obtain ⟨Aa,ca,rfl,_⟩:=id hA
 have hn1:=hAO.n1
 have hal:=hAO.al
 obtain ⟨B,P,hbr,S⟩:=Cn7.refine_all (L:=List.range rows.length) hAO.tok (Cn7.clo_all hAO.tok) (f:=rows.length+2) (by rw [AaO];exact Nat.lt_succ_self _)
 obtain ⟨R,hR⟩:∃ R,bH B rows acc P.length=some R:=nZ hAO S
 have hmR:Cn7.minF rows acc=some R:=by unfold Cn7.minF;rw [hbr];exact hR
 refine Ba.of_T [(0,_)] func54 rfl ntmps54 sM rfl fun w0 hs=>?_
 have hB0:=hB
 have hN0:=hN
 have hA0:=hA
 have hT0:=hT
 refine Wt 2 [] hs rfl<|O_s (Sa hs zeroValue37 rfl fun b2 _ hs=>Wp 5 [0] hs rfl<|Zy hs (Ci rfl<|Wp 1 [0] hs rfl<|Zy hs (Yg rfl (hB 0 _ rfl)<|Wp 1 [] hs rfl<|O_s (Dw (n:=rows.length) (m:=rows.length) hs underlying79 Qx rfl rfl rfl oM oM oM fun b21 _ hs =>Wp 6 [0] hs rfl<|Zy hs (Ci rfl<|Wp 1 [1] hs rfl<|Zy hs (Yg rfl (hB 1 _ rfl)<|Wp 3 [0] hs rfl ?_))))))
 have hs:=hs.f1.f1
 rw [Hy] at hs
 obtain ⟨Gp0,hGp⟩:=hs.name
 subst hGp
 have hB_0:=hB
 have hN_0:=hN
 have hA_0:=hA
 have hT_0:=hT
 refine Zl [0,2,4,25,26,27] (fun m E w=>∃ (k:Nat) (bl:List Nat) (G2:Ah),Cu Gp0 G2∧k≤rows.length∧bl=(List.range k).foldl (fun b s=>if acc.getD s false=true then b.set s 1 else b) (List.replicate rows.length 0)∧bl.length=rows.length∧m=rows.length-k∧E=⟨[],[(0,Vp b0),(2,Vp b2),(4,Vs b21 rows.length rows.length),(25,.slice Aa acc.length ca),(26,Vi ((acc.length:Nat):Int)),(27,Vi (k:Int))]⟩∧St ⟨w0,Gp0,Bj []⟩ G2 [.row 3 1 (Vs b21 rows.length rows.length) rows.length (bl.map Bl),.blk b2 37 [Vn,Vn,Vn]] w) rfl (⟨0,_,_,Cu.refl _,by omega,rfl,by simp,rfl,rfl,hs⟩) fun m E w hI=>?_
 obtain ⟨k,bl,G2,hlg0,hk9,hfo,hbl,rfl,rfl,hs⟩:=hI
 have hB:=hB_0.mono hlg0
 have hN:=hN_0.mono hlg0
 have hA:=hA_0.mono hlg0
 have hT:=hT_0.mono hlg0
 refine Wt 2 [] hs rfl<|Zy hs (Yc rfl (fun h28=>?_) fun h28=>?_)
 ·
  refine Wp 9 [0] hs rfl<|Zy hs (Ee k underlying30 sizeOf4 hA rfl rfl rfl (Dm oM) fun p30 hp30 =>Zy hs (Yg rfl (hp30)<|Wp 7 [0,0] hs rfl<|Fk rfl (fun h34=>?_) (fun h34=>?_)))
  ·
   refine Wu 3 [] hs rfl<|Zy hs (Be (k) underlying79 sizeOf3 rfl rfl rfl oM<|O_n (Bz hs sizeOf3 rfl rfl rfl oM fun _ hs =>Wp 2 [0] hs rfl<|Zy hs (Ya (s:=((k+1:Nat):Int)) rfl<|Wp 1 [] hs rfl ?_)))
   have hs:=hs.f1.f1
   have hacc:acc.getD k false=true:=by rw [Bn oM];exact h34
   refine Cr ⟨_,?_,[(0,_),(2,_),(4,_),(25,_),(26,_),(27,_)],⟨rfl,rfl,rfl,rfl,rfl,rfl,trivial⟩,⟨k+1,bl.set k 1,_,hlg0,by omega,by rw [Wj,← hfo];dsimp only;rw [hacc];rfl,by simp [hbl],rfl,rfl,by rw [Aad];exact hs⟩⟩
   omega
  refine Wu 2 [] hs rfl<|Zy hs (Ya (s:=((k+1:Nat):Int)) rfl<|Wp 1 [] hs rfl ?_)
  have hs:=hs.f1.f1
  have hacc:acc.getD k false=false:=by rw [Bn oM];exact h34
  refine Cr ⟨_,?_,[(0,_),(2,_),(4,_),(25,_),(26,_),(27,_)],⟨rfl,rfl,rfl,rfl,rfl,rfl,trivial⟩,⟨k+1,bl,_,hlg0,by omega,by rw [Wj,← hfo];dsimp only;rw [hacc];rfl,by simp [hbl],rfl,rfl,hs⟩⟩
  omega
 refine Wp 4 [0] hs rfl<|Wu 5 [0] hs rfl ?_
 obtain rfl:k=rows.length:=by omega
 obtain ⟨Gp1,hGp⟩:=hs.name
 subst hGp
 have hB_1:=hB
 have hN_1:=hN
 have hA_1:=hA
 have hT_1:=hT
 have hlg0_1:=hlg0
 refine Zl [0,2,4,7] (fun m E w=>∃ (f c b4:Nat) (bl:List Nat) (G2:Ah),Cu Gp1 G2∧mD (Cn7.tabA rows acc) (List.range rows.length) f bl c=some (B,P)∧bl.length=rows.length∧c≤5000∧m=f∧E=⟨[],[(0,Vp b0),(2,Vp b2),(4,Vs b4 rows.length rows.length),(7,Vi (c:Int))]⟩∧St ⟨w0,Gp0,Bj []⟩ G2 [.row 3 1 (Vs b4 rows.length rows.length) rows.length (bl.map Bl),.blk b2 37 [Vn,Vn,Vn]] w) rfl (⟨rows.length+2,0,b21,bl,_,Cu.refl _,by rw [hfo];exact hbr,hbl,by omega,rfl,rfl,hs⟩) fun m E w hI=>?_
 obtain ⟨f,c,b4,bl,G2,hlg1,hrg,hbl,hc5,rfl,rfl,hs⟩:=hI
 have hB:=hB_1.mono hlg1
 have hN:=hN_1.mono hlg1
 have hA:=hA_1.mono hlg1
 have hT:=hT_1.mono hlg1
 have hlg0:=hlg0_1.mono hlg1
 refine Wt 3 [] hs rfl<|O_s (Fm hs fun b37 _ hs =>Wp 6 [0] hs rfl<|O_s (Dw (n:=rows.length) (m:=rows.length) hs underlying79 Qx rfl rfl rfl oM oM oM fun b40 _ hs =>Wp 6 [0] hs rfl<|Zy hs (Ci rfl<|Wp 1 [0] hs rfl<|Zy hs (Yg rfl (hB 0 _ rfl)<|Wp 3 [0] hs rfl ?_))))
 have hfp:=rG hrg
 obtain ⟨f1,rfl⟩:∃ g,m=g+1:=⟨m-1,by omega⟩
 have hs:=hs.f3.f3.f2.f3
 rw [Hy] at hs
 obtain ⟨Gp2,hGp⟩:=hs.name
 subst hGp
 have hB_2:=hB
 have hN_2:=hN
 have hA_2:=hA
 have hT_2:=hT
 have hlg0_2:=hlg0
 have hlg1_2:=hlg1
 refine Zl [0,2,4,7,8,9,45,46] (fun m E w=>∃ (k:Nat) (ks:List (List UInt8)) (nx rp:List Nat) (G2:Ah),Cu Gp2 G2∧k≤rows.length∧(⟨ks,nx,rp⟩:Rf)=(List.range k).foldl (Xc (Cn7.tabA rows acc) bl) ⟨[],List.replicate bl.length 0,[]⟩∧ks.Nodup∧ks.length=rp.length∧nx.length=rows.length∧rp.length≤k∧m=rows.length-k∧E=⟨[],[(0,Vp b0),(2,Vp b2),(4,Vs b4 rows.length rows.length),(7,Vi (c:Int)),(8,.map (some b37)),(9,Vs b40 rows.length rows.length),(45,Vi ((rows.length:Nat):Int)),(46,Vi (k:Int))]⟩∧St ⟨w0,Gp0,Bj []⟩ G2 [.obj b37 (.map (En Ji ks).toArray ks.length),.row 3 1 (Vs b40 rows.length rows.length) rows.length (nx.map Bl),.row 3 1 (Vs b4 rows.length rows.length) rows.length (bl.map Bl),.blk b2 37 [Vn,Vn,Vn]] w) rfl (⟨0,[],List.replicate bl.length 0,[],_,Cu.refl _,by omega,rfl,Aaz,rfl,by simp [hbl],by simp,rfl,rfl,by rw [hbl];exact hs⟩) fun m E w hI=>?_
 obtain ⟨k,ks,nx,rp,G2,hlg2,hk9,hfo,hnd,hkl,hnl,hrk,rfl,rfl,hs⟩:=hI
 have hB:=hB_2.mono hlg2
 have hN:=hN_2.mono hlg2
 have hA:=hA_2.mono hlg2
 have hT:=hT_2.mono hlg2
 have hlg0:=hlg0_2.mono hlg2
 have hlg1:=hlg1_2.mono hlg2
 refine Wt 2 [] hs rfl<|Zy hs (Yc rfl (fun h47=>?_) fun h47=>?_)
 ·
  refine Wp 11 [0,0] hs rfl ?_
  obtain ⟨x0,hx0⟩:∃ x,x=bl[k]'oM:=⟨_,rfl⟩
  refine Wu 1 [] hs rfl<|Bg [0,1,2,3,4,5,6,7,8,9,10,11,12] hs kR ?_
  replace hs:=hs.drew
  refine Xr [0,1] [] hs rfl<|Xt 2 hs rfl (Be (k) underlying79 sizeOf3 rfl rfl rfl oM<|Xt 3 hs rfl (Cm 2 rfl isAgg3 rfl (show (bl.map Bl)[k]?=some (Bl x0) from by rw [hx0];exact Jd oM)<|Xt 4 hs rfl (Dj underlying3 underlying5 (c:=((UInt8.ofNat x0).toNat:Int)) rfl (Dx _)<|Xr [5,6] [] hs rfl<|Xt 7 hs rfl (Be (k) underlying79 sizeOf3 rfl rfl rfl oM<|Xt 8 hs rfl (Cm 2 rfl isAgg3 rfl (show (bl.map Bl)[k]?=some (Bl x0) from by rw [hx0];exact Jd oM)<|Xt 9 hs rfl (Mh (c:=((x0 / 256:Nat):Int)) rfl rfl dC (eC _)<|Xt 10 hs rfl (Dj underlying3 underlying5 (c:=((UInt8.ofNat (x0 / 256)).toNat:Int)) rfl (Dx _) ?_)))))))
  have hle:=hs.le
  refine Xo 11 rfl (Se hs zeroValue5 rfl fun v1 _ hs _=>Ai hs hle (gLr _) (Aax _ _)<|Xr [12] [] hs rfl<|Xe (Zk [0,2,4,7,8,9,10,11,45,46] rfl<|Wu 4 [] hs rfl<|Zy hs (Ci rfl<|Wp 1 [0] hs rfl<|Zy hs (Yg rfl (hB 0 _ rfl)<|Wp 1 [] hs rfl<|Zy hs (Ca hN k underlying101 sizeOf80 rfl rfl rfl oM fun p66 c66 hp66 hc66 hR66=>?_)))))
  obtain ⟨rr,herr⟩:∃ r,r=rows[k]'oM:=⟨_,rfl⟩
  rw [← herr] at hR66
  obtain ⟨rfl,hrl⟩:=hR66
  have hlrr:∀ x∈rr,x<rows.length:=(hAO.row rr vW).2
  refine Zy hs (Db (vs:=List.map Bx rr) isAgg80 sizeOf80 rfl hp66 hc66<|Wp 2 [0] hs rfl ?_)
  have hs:=hs.f4.f4.f4.f4.f4
  have hx0g:two x0=two (bl.getD k 0):=by rw [Bn oM,← hx0]
  obtain ⟨Gp3,hGp⟩:=hs.name
  subst hGp
  have hB_3:=hB
  have hN_3:=hN
  have hA_3:=hA
  have hT_3:=hT
  have hlg0_3:=hlg0
  have hlg1_3:=hlg1
  have hlg2_3:=hlg2
  refine Zl [0,2,4,7,8,9,10,11,45,46,67,68] (fun m E w=>∃ (j:Nat) (vk:Value) (G2:Ah),Cu Gp3 G2∧j≤256∧m=256-j∧E=⟨[],[(0,Vp b0),(2,Vp b2),(4,Vs b4 rows.length rows.length),(7,Vi (c:Int)),(8,.map (some b37)),(9,Vs b40 rows.length rows.length),(10,Vi (k:Int)),(11,vk),(45,Vi ((rows.length:Nat):Int)),(46,Vi (k:Int)),(67,.agg (List.map Bx rr).toArray),(68,Vi (j:Int))]⟩∧St ⟨w0,Gp0,Bj []⟩ G2 [.row 5 1 vk (two (bl.getD k 0)++(rr.take j).flatMap fun x=>two (bl.getD x 0)).length ((two (bl.getD k 0)++(rr.take j).flatMap fun x=>two (bl.getD x 0)).map Dy),.obj b37 (.map (En Ji ks).toArray ks.length),.row 3 1 (Vs b40 rows.length rows.length) rows.length (nx.map Bl),.row 3 1 (Vs b4 rows.length rows.length) rows.length (bl.map Bl),.blk b2 37 [Vn,Vn,Vn]] w) rfl (⟨0,_,_,Cu.refl _,by omega,rfl,rfl,by rw [AcS,List.flatMap_nil,AaX,← hx0g];exact hs⟩) fun m E w hI=>?_
  obtain ⟨j,vk,G2,hlg3,hj,rfl,rfl,hs⟩:=hI
  have hB:=hB_3.mono hlg3
  have hN:=hN_3.mono hlg3
  have hA:=hA_3.mono hlg3
  have hT:=hT_3.mono hlg3
  have hlg0:=hlg0_3.mono hlg3
  have hlg1:=hlg1_3.mono hlg3
  have hlg2:=hlg2_3.mono hlg3
  refine Wt 2 [] hs rfl<|Zy hs (Yc rfl (fun h69=>?_) fun h69=>?_)
  ·
   refine Wp 8 [0] hs rfl ?_
   obtain ⟨x,hxe⟩:∃ x,x=rr[j]'oM:=⟨_,rfl⟩
   have hxN:x<rows.length:=hlrr x Z47
   refine Zy hs (Sh (v:=Bl x) j underlying80 isAgg3 sizeOf3 rfl rfl rfl oM (by rw [hxe];exact bI oM)<|Wp 2 [0] hs rfl ?_)
   obtain ⟨x1,hx1⟩:∃ y,y=bl[x]'oM:=⟨_,rfl⟩
   have hkyl:(two (bl.getD k 0)++(rr.take j).flatMap fun x=>two (bl.getD x 0)).length=2+2*j:=by rw [AaB,Xi,rJ,Aag];omega
   refine Bg [0,1,2,3,4,5,6,7,8,9,10,11,12] hs kR ?_
   replace hs:=hs.drew
   refine Xr [0,1,2] [] hs rfl<|Xt 3 hs rfl (Be (x) underlying79 sizeOf3 rfl rfl rfl oM<|Xt 4 hs rfl (Cm 3 rfl isAgg3 rfl (show (bl.map Bl)[x]?=some (Bl x1) from by rw [hx1];exact Jd oM)<|Xt 5 hs rfl (Dj underlying3 underlying5 (c:=((UInt8.ofNat x1).toNat:Int)) rfl (Dx _)<|Xr [6,7] [] hs rfl<|Xt 8 hs rfl (Be (x) underlying79 sizeOf3 rfl rfl rfl oM<|Xt 9 hs rfl (Cm 3 rfl isAgg3 rfl (show (bl.map Bl)[x]?=some (Bl x1) from by rw [hx1];exact Jd oM)<|Xt 10 hs rfl (Mh (c:=((x1 / 256:Nat):Int)) rfl rfl dC (eC _)<|Xt 11 hs rfl (Dj underlying3 underlying5 (c:=((UInt8.ofNat (x1 / 256)).toNat:Int)) rfl (Dx _) ?_)))))))
   have hle:=hs.le
   refine Xo 12 rfl (Se hs zeroValue5 rfl fun v2 _ hs _=>?_)
   obtain ⟨_,hG83,hl83,hs⟩:=hs.fixRow noM
   replace hlg3:=hlg3.mono hG83
   refine Ai hs hle hG83 (lSr _)<|Xa 13 rfl (Au hs underlying22 cK rfl dC rfl rfl (hl83) (one2) (by rw [hkyl];omega) (by rw [hkyl];omega) fun v3 _ hs =>Xa 14 rfl (S_y hs rfl (Yq rfl<|Xe (Zk [0,2,4,7,8,9,10,11,45,46,67,68] rfl ?_))))
   refine Zr<|Zy hs (Ya (s:=((j+1:Nat):Int)) rfl<|Wp 1 [] hs rfl ?_)
   have hs:=hs.f4.f4.f4.f4.f4
   have hx1g:two x1=two (bl.getD rr[j] 0):=by rw [← hxe,Bn oM,← hx1]
   refine Cr ⟨_,?_,[(0,_),(2,_),(4,_),(7,_),(8,_),(9,_),(10,_),(11,_),(45,_),(46,_),(67,_),(68,_)],⟨rfl,rfl,rfl,rfl,rfl,rfl,rfl,rfl,rfl,rfl,rfl,rfl,trivial⟩,⟨j+1,_,_,hlg3,by omega,rfl,rfl,by rw [kB oM,← hx1g,← AaI,AaU,AaB];exact hs⟩⟩
   omega
  refine Wp 4 [0] hs rfl ?_
  obtain rfl:j=256:=by omega
  rw [Aab oM] at hs
  obtain ⟨_,hG_hky,hky,hs⟩:=hs.fixRow noM
  have hke:(two (bl.getD k 0)++rr.flatMap fun x=>two (bl.getD x 0))=Hr (Cn7.tabA rows acc) bl k:=by unfold Hr;rw [show (Cn7.tabA rows acc).next=rows from rfl,Cn7.gD (show k<rows.length by omega),← herr]
  rw [hke] at hky
  replace hky:Bd _ _ _:=hky
  refine Wu 4 [] hs rfl<|Zy hs (Kq (bs:=Hr (Cn7.tabA rows acc) bl k) underlying22 underlying5 underlying9 rfl hky ?_)
  replace hlg2:=hlg2.mono hG_hky
  refine Zy hs (Fp (a:=(Hr (Cn7.tabA rows acc) bl k)) 0 rfl underlying114 aW zeroValue3 hnd rfl rfl (fun hno=>?_) (fun hyes=>?_))
  ·
   refine Wp 16 [0,0] hs rfl<|Zy hs (fH 0 rfl (Uk _) underlying114 rfl<|Wp 5 [11,0,2,4,7,8,9,10,11,14,45,46] hs rfl<|Zy hs (Kq (bs:=Hr (Cn7.tabA rows acc) bl k) underlying22 underlying5 underlying9 rfl hky<|Wp 1 [] hs rfl<|O_n (Ks hs underlying114 aW hnd hno rfl rfl rfl fun _ hs =>Wp 5 [0] hs rfl<|Zy hs (Be (k) underlying79 sizeOf3 rfl rfl rfl oM<|O_n (Bz hs.f1 sizeOf3 rfl rfl rfl oM fun _ hs =>Wp 2 [0] hs rfl<|Zy hs (Ya (s:=((k+1:Nat):Int)) rfl<|Wp 1 [] hs rfl ?_))))))
   have hs:=hs.f3.f3.f2.f3
   have hst:=fX (t:=(Cn7.tabA rows acc)) (bl:=bl) (nx:=nx) (rp:=rp) hno
   refine Cr ⟨_,?_,[(0,_),(2,_),(4,_),(7,_),(8,_),(9,_),(45,_),(46,_)],⟨rfl,rfl,rfl,rfl,rfl,rfl,rfl,rfl,trivial⟩,⟨k+1,ks++[Hr (Cn7.tabA rows acc) bl k],nx.set k rp.length,rp++[k],_,hlg2,by omega,by rw [Wk,← hfo,hst],Ix hnd hno,by simp [hkl],by rw [AaP];exact hnl,by simp;omega,rfl,rfl,by rw [Aad,← hkl];exact hs.wk [_,_,_,_]⟩⟩
   omega
  refine Wp 18 [0,0] hs rfl<|Zy hs (Be (k) underlying79 sizeOf3 rfl rfl rfl oM<|O_n (Bz hs.f1 sizeOf3 rfl rfl rfl oM fun _ hs =>Wp 2 [8,0,2,4,7,8,9,45,46] hs rfl<|Zy hs (Ya (s:=((k+1:Nat):Int)) rfl<|Wp 1 [] hs rfl ?_)))
  have hs:=hs.f3.f3.f2.f3
  have hst:=fW (t:=(Cn7.tabA rows acc)) (bl:=bl) (nx:=nx) (rp:=rp) hyes
  refine Cr ⟨_,?_,[(0,_),(2,_),(4,_),(7,_),(8,_),(9,_),(45,_),(46,_)],⟨rfl,rfl,rfl,rfl,rfl,rfl,rfl,rfl,trivial⟩,⟨k+1,ks,nx.set k (Bc (Hr (Cn7.tabA rows acc) bl k) ks),rp,_,hlg2,by omega,by rw [Wk,← hfo,hst],hnd,hkl,by rw [AaP];exact hnl,by omega,rfl,rfl,by rw [Aad];exact hs.wk [_,_,_,_]⟩⟩
  omega
 refine Wp 4 [0] hs rfl<|Wu 9 [0] hs rfl<|Zy hs (fH 0 rfl (Uk _) underlying114 rfl<|Wp 1 [] hs rfl<|Zy hs (Yc rfl (fun h110=>?_) fun h110=>?_))
 ·
  refine Wp 3 [0] hs rfl ?_
  obtain rfl:k=rows.length:=by omega
  have hfe:=rH hfo oM hrg
  rw [Prod.mk.injEq] at hfe
  obtain ⟨rfl,rfl⟩:=hfe
  have hs:=hs.f1
  obtain ⟨_,hG_hf40,hf40,hs⟩:=hs.fixRow noM
  have hnx:De _ (Vs b40 rows.length rows.length) B:=(show De _ _ _ from by unfold De;rw [hnl];exact hf40)
  have hmx:=max_stb S hn1
  refine Wu 5 [] hs rfl<|O_s (Sp (max7_ok hnx oM oM) hs rfl fun v4 G' _ hR hG116 hs=>?_)
  obtain rfl:=hR
  refine Zy hs (Ya (s:=((P.length:Nat):Int)) rfl ?_)
  have hGz:=hG_hf40.trans hG116
  replace hB:=hB.mono hGz
  replace hN:=hN.mono hGz
  replace hA:=hA.mono hGz
  replace hT:=hT.mono hGz
  replace hnx:=hnx.mono hG116
  refine O_s (Sp (zX ⟨_,_,hB,hN,hA⟩ hAO hsz S hnx hR hT) hs rfl fun v5 G' _ hde118 hG118 hs=>?_)
  obtain ⟨vd118,hre118,ea118,en118,ec118,fa118,fn118,fc118,ga118,gn118,gc118,hve118⟩:=hde118.tup
  subst hve118
  subst hre118
  refine Wp 2 [] hs rfl<|O_n (Sg hs.f2 rfl (rfl) fun _ hs=>Wp 2 [0] hs rfl<|As ?_)
  have hr:=hs
  refine By (vs:=[_,_]) results54 rfl ⟨Bq 0 hr isAgg37 sizeOf37 rfl (cs:=[_,_,_]) rfl rfl,rfl,trivial⟩ ?_
  try dsimp only [tup]
  exact hs.q ⟨R,hmR,hde118⟩
 refine Wp 5 [0] hs rfl<|Zy hs (fH 0 rfl (Uk _) underlying114 rfl<|Wp 1 [] hs rfl ?_)
 have hs:=hs.f3.f2
 obtain rfl:k=rows.length:=by omega
 have hgo:=yU hfo oM hrg
 refine Cr ⟨_,?_,[(0,_),(2,_),(4,_),(7,_)],⟨rfl,rfl,rfl,rfl,trivial⟩,⟨f1,rp.length,b40,nx,_,hlg1,hgo,by omega,by omega,rfl,by rw [hkl],by exact hs.wk [_,_]⟩⟩
 omega
theorem PL103:places prog 103=some [(0,1),(1,1)]:=by kernel_rfl
theorem TI80:TI prog 80 (.agg (List.replicate 256 (Vi 0)).toArray) 256 2048:=TI.of kR
theorem TI97:TI prog 97 (.agg #[Vi 0,Vi 0]) 2 16:=TI.of kR
def Pd (u1 u2 u3 u4:Value) (cell:List Nat) (q:Nat) (vo:Value) (sk:Bool):List Value:=u1::u2::u3::u4::(cell.map Bx++[Bl q,vo,.bool sk])
theorem Np {u1 u2 u3 u4 vo:Value} {cell:List Nat} {q:Nat} {sk:Bool} (h:cell.length=256):(Pd u1 u2 u3 u4 cell q vo sk).length=263:=by
  unfold Pd;simp only [AaZ,AaB,AaC,h,List.length_nil]
theorem zZ {u1 u2 u3 u4 vo:Value} {cell:List Nat} {q i:Nat} {sk:Bool} (h:cell.length=256) (hi:i<256):(Pd u1 u2 u3 u4 cell q vo sk)[4+i]?=some (Bl (cell.getD i 0)):=by
  rw [show 4+i=i+4 by omega]
  show (cell.map Bx++[Bl q,vo,.bool sk])[i]?=_
  rw [AaN iA];exact eK h hi
theorem Hi {u1 u2 u3 u4 vo:Value} {cell:List Nat} {q j:Nat} {sk:Bool} (h:cell.length=256):(Pd u1 u2 u3 u4 cell q vo sk)[260+j]?=[Bl q,vo,.bool sk][j]?:=by
  rw [show 260+j=(256+j)+4 by omega]
  show (cell.map Bx++[Bl q,vo,.bool sk])[256+j]?=_
  rw [AaW iA,AaC,h,Nat.add_sub_cancel_left]
theorem Lu {u1 u2 u3 u4 vo v:Value} {cell:List Nat} {q j:Nat} {sk:Bool} (h:cell.length=256):(Pd u1 u2 u3 u4 cell q vo sk).set (260+j) v=u1::u2::u3::u4::(cell.map Bx++[Bl q,vo,.bool sk].set j v):=by
  rw [show 260+j=(256+j)+4 by omega]
  show u1::u2::u3::u4::((cell.map Bx++[Bl q,vo,.bool sk]).set (256+j) v)=_
  rw [AbM _ _ iA,AaC,h,Nat.add_sub_cancel_left]
theorem oB:Hf prog 97 pairI:=Hf.pairI underlying97 sizeOf3 isAgg3 underlying3
theorem Tk {α:Type} [DecidableEq α] {s:α} {l:List α} {r:List Nat} (h:Bc s l<l.length):Cn7.exS s (l,r)=(l,r++[Bc s l]):=by unfold Cn7.exS;simp only [if_pos h]
theorem Tl {α:Type} [DecidableEq α] {s:α} {l:List α} {r:List Nat} (h:¬ Bc s l<l.length):Cn7.exS s (l,r)=(l++[s],r++[l.length]):=by unfold Cn7.exS;simp only [if_neg h]
theorem rX {α:Type} [DecidableEq α] {by':List Nat} {nx:α→Nat→α} {f i:Nat} {l:List α} {rows:List (List Nat)} {R:List α×List (List Nat)} (h:Cn7.exA by' nx f i l rows=some R):0<f:=by
  cases f with
  | zero=>cases h
  | succ f=>omega
theorem exA_end {α:Type} [DecidableEq α] {by':List Nat} {nx:α→Nat→α} {f i:Nat} {l:List α} {rows:List (List Nat)} {R:List α×List (List Nat)} (hi:¬ i<l.length) (h:Cn7.exA by' nx (f+1) i l rows=some R):R=(l,rows):=by
  rw [Cn7.exA,AaL oM] at h;injection h with h;exact h.symm
theorem exA_go {α:Type} [DecidableEq α] {by':List Nat} {nx:α→Nat→α} {f i:Nat} {l:List α} {rows:List (List Nat)} {R:List α×List (List Nat)} (hi:i<l.length) (h:Cn7.exA by' nx (f+1) i l rows=some R) :
    Cn7.exA by' nx f (i+1) (by'.foldl (fun st b=>Cn7.exS (nx l[i] b) st) (l,[])).1 (rows++[(by'.foldl (fun st b=>Cn7.exS (nx l[i] b) st) (l,[])).2])=some R:=by
  rw [Cn7.exA,AaA hi] at h;exact h
theorem Ib {α:Type} [DecidableEq α] {nx:Nat→α} {k:Nat} (st:List α×List Nat):(List.range (k+1)).foldl (fun st b=>Cn7.exS (nx b) st) st=Cn7.exS (nx k) ((List.range k).foldl (fun st b=>Cn7.exS (nx b) st) st):=by rw [AbC,Aap];rfl
def piC (p:Int×Int):List Value:=[Vi p.1,Vi p.2]
def piF (l:List (Int×Int)):List Value:=(l.map piC).flatten
def uX (l:List (List Nat)):List Value:=(l.map fun r=>r.map Bx).flatten
theorem bL (l:List (Int×Int)) (p:Int×Int):piF (l++[p])=piF l++[Vi p.1,Vi p.2]:=by unfold piF;simp [piC]
theorem kT (l:List (List Nat)) (r:List Nat):uX (l++[r])=uX l++r.map Bx:=by unfold uX;simp
theorem oC:∀ {l:List (Int×Int)} {i:Nat} (h:i<l.length),(piF l)[i*2]?=some (Vi (l[i]).1)∧(piF l)[i*2+1]?=some (Vi (l[i]).2)
  | p::l,0,_=>⟨rfl,rfl⟩
  | p::l,i+1,h=>by
    have ih:=oC (l:=l) (i:=i) iB
    rw [show (i+1)*2=i*2+2 by omega,show i*2+2+1=(i*2+1)+2 by omega]
    exact ih
theorem ra_of {v:Value} {l:List (List Nat)} (h:Sl G v 256 l.length (uX l)) (h2:∀ r∈l,r.length=256):RA G v l:=by
  refine Bi.ofSl (cs:=l.map fun r=>r.map Bx) h rfl rfl ?_ (fun c hc=>by obtain ⟨r,hr,rfl⟩:=Aaf.1 hc;rw [AaC];exact h2 r hr)
  clear h
  induction l with
  | nil=>trivial
  | cons r l ih=>exact ⟨⟨rfl,h2 r AaK⟩,ih fun s hs=>h2 s (AaG _ hs)⟩
theorem kU {t:Tr} {d:Cy} (ht:Cn7.TrOk t) (hd:Cn7.DOk d) (s:Int×Int) (hs:Cn7.preOk t d s) (b:Nat):Cn7.preOk t d (Ni t (Av d) s b):=by
  have hdt:=Cn7.tab_ok hd
  unfold Ni
  split
  · rename_i hc
    rcases hs with rfl | ⟨a1,a2,a3,a4⟩
    · exact absurd hc.1 dC
    · have hm:=ht.mv (p:=s.1.toNat) oM (UInt8.ofNat b)
      refine .inr ⟨hc.2,hm.2.1,Int.natCast_nonneg _,?_⟩
      have:=Cn7.aft_lt hdt (Gt (Dv t s.1.toNat (UInt8.ofNat b)).out (UInt8.ofNat b)) (q:=s.2.toNat) (by show s.2.toNat<d.next.length;omega)
      exact Int.ofNat_lt.2 this
  · exact .inl rfl
theorem kV {t:Tr} {d:Cy} (ht:Cn7.TrOk t) (hd:Cn7.DOk d):Cn7.preOk t d (0,0):=by
  have h1:=ht.n1;have h2:=hd.n1
  exact .inr ⟨by decide,by show (0:Int)<_;omega,by decide,by show (0:Int)<_;omega⟩
theorem pre_max {t:Tr} {d:Cy} (ht:Cn7.TrOk t) (h64:d.next.length≤64) {l:List (Int×Int)} (hn:l.Nodup) (h:∀ x∈l,Cn7.preOk t d x):l.length≤4097:=by
  have h1:=Cn7.pre_le l hn h
  have h2:t.moves.length*d.next.length≤64*64:=Abg ht.n2 h64
  omega
theorem pre_run {t:Tr} {d:Cy} (ht:Cn7.TrOk t) (hd:Cn7.DOk d) (h64:d.next.length≤64):∃ L Rows,Cn7.exA (List.range 256) (Ni t (Av d)) 5000 0 [(0,0)] []=some (L,Rows)∧Cn7.AOk Rows (L.map (Jz t (Av d)))∧Rows.length≤5000∧nJ t d=Cn7.minF Rows (L.map (Jz t (Av d))):=by
  have hmul:t.moves.length*d.next.length≤64*64:=Abg ht.n2 h64
  obtain ⟨l,rows,e,hE⟩:=Cn7.exA_run (bytes:=List.range 256) (N:=t.moves.length*d.next.length+1) (fun s hs b _=>kU ht hd s hs b) (fun l hn h=>Cn7.pre_le l hn h) 5000 0 (Cn7.ei_start (kV ht hd)) oM
  have hle:=Cn7.pre_le l hE.nd hE.ok
  refine ⟨l,rows,e,Cn7.ei_rows hE oM _,by rw [hE.rl];omega,?_⟩
  unfold nJ;rw [e]
theorem u8k {k:Nat} (h:k<256):(UInt8.ofNat k).toNat=k:=by rw [Aav];exact AaT h
theorem gH {α:Type} [DecidableEq α] {nx:Nat→α} {ok:α→Prop} (hok:∀ b,ok (nx b)) {l:List α} (hn:l.Nodup) (hl:∀ s∈l,ok s):∀ (k:Nat) {l2:List α} {r:List Nat},(l2,r)=(List.range k).foldl (fun st b=>Cn7.exS (nx b) st) (l,[])→l2.Nodup∧(∀ s∈l2,ok s)∧r.length=k∧∃ m,l2=l++m
  | 0,l2,r,h=>by
    obtain ⟨rfl,rfl⟩:=Prod.mk.inj h
    exact ⟨hn,hl,rfl,[],(AaX _).symm⟩
  | k+1,l2,r,h=>by
    obtain ⟨⟨a,b⟩,hab⟩:∃ z,z=(List.range k).foldl (fun st b=>Cn7.exS (nx b) st) (l,[]):=⟨_,rfl⟩
    obtain ⟨h1,h2,h3,m,rfl⟩:=gH hok hn hl k hab
    rw [Ib,← hab] at h
    by_cases hp:Bc (nx k) (l++m)<(l++m).length
    · rw [Tk hp] at h
      obtain ⟨rfl,rfl⟩:=Prod.mk.inj h
      exact ⟨h1,h2,by rw [AaB,h3];rfl,m,rfl⟩
    · rw [Tl hp] at h
      obtain ⟨rfl,rfl⟩:=Prod.mk.inj h
      refine ⟨Ix h1 hp,fun s hs=>?_,by rw [AaB,h3];rfl,m++[nx k],AaI _ _ _⟩
      rcases AaS.1 hs with hs | hs
      · exact h2 s hs
      · rw [AaE.1 hs];exact hok k
theorem preN_y {t:Tr} {X:Tb} {p q:Int} {pn qn k:Nat} {mv:Mv} (hp:p=(pn:Int)) (hq:q=(qn:Int)) (hm:Dv t pn (UInt8.ofNat k)=mv) (h0:0≤mv.to):Ni t X (p,q) k=(mv.to,((Cn7.aft X qn (Gt mv.out (UInt8.ofNat k)):Nat):Int)):=by
  subst hp hq;unfold Ni;rw [if_pos (by exact ⟨Int.natCast_nonneg _,by rw [AbE,hm];exact h0⟩)];simp only [AbE,hm]
theorem preN_n {t:Tr} {X:Tb} {p q:Int} {pn k:Nat} {mv:Mv} (hp:p=(pn:Int)) (hm:Dv t pn (UInt8.ofNat k)=mv) (h0:¬ 0≤mv.to):Ni t X (p,q) k=(-1,-1):=by
  subst hp;unfold Ni;rw [if_neg (by rintro ⟨_,h⟩;rw [AbE,hm] at h;exact h0 h)]
theorem preN_p {t:Tr} {X:Tb} {p q:Int} {k:Nat} (hp:¬ 0≤p):Ni t X (p,q) k=(-1,-1):=by
  unfold Ni;rw [if_neg (by rintro ⟨h,_⟩;exact hp h)]
theorem preA_p {t:Tr} {X:Tb} {p q:Int} (hp:¬ 0≤p):Jz t X (p,q)=false:=by unfold Jz;rw [decide_eq_false hp];rfl
theorem preA_f {t:Tr} {X:Tb} {p q:Int} {pn:Nat} (hp:p=(pn:Int)) (hf:t.final.getD pn false=false):Jz t X (p,q)=false:=by
  subst hp;unfold Jz;rw [decide_eq_true (Int.natCast_nonneg _)];simp only [AbE,hf];rfl
theorem preA_t {t:Tr} {X:Tb} {p q:Int} {pn qn:Nat} (hp:p=(pn:Int)) (hq:q=(qn:Int)) (hf:t.final.getD pn false=true):Jz t X (p,q)=X.acc.getD (Cn7.aft X qn (t.ends.getD pn [])) false:=by
  subst hp hq;unfold Jz;rw [decide_eq_true (Int.natCast_nonneg _)];simp only [AbE,hf];rfl
theorem gI {a b:Int}:∀ y∈[Value.int .i64 a,Vi b],y.oneCell'=true:=by
  intro y hy;simp at hy;rcases hy with rfl | rfl<;>rfl
theorem one_rw {r:List Nat}:∀ y∈[r.map Bx].flatten,y.oneCell'=true:=by
  intro y hy;simp at hy;obtain ⟨a,_,rfl⟩:=hy;rfl
theorem pre_pq {t:Tr} {d:Cy} {p q:Int} (h:Cn7.preOk t d (p,q)) (h0:0≤p):∃ pn qn:Nat,p=(pn:Int)∧q=(qn:Int)∧pn<t.moves.length∧qn<d.next.length:=by
  rcases h with h | ⟨h1,h2,h3,h4⟩
  · obtain ⟨rfl,_⟩:=Prod.mk.inj h;exact absurd h0 dC
  · dsimp only at h1 h2 h3 h4
    exact ⟨p.toNat,q.toNat,(AcO h1).symm,(AcO h3).symm,by omega,by omega⟩
theorem Pe {α:Type} {l l2 m:List α} {i:Nat} {s:α} (h:i<l.length) (h2:l2=l++m) (hs:s=l[i]):l2.take (i+1)=l.take i++[s]:=by
  subst h2 hs;rw [List.take_append_of_le_length oM,Aay,AaA h];rfl
theorem kW {v vw:Value} {d:Cy} {bs s0:Nat} {q:Int} {wd:List UInt8} (hq:q=(s0:Int)) (hd:Hm G v d) (hk:Cn7.DOk d) (hB:Cg G bs ((Cv d.cls).map Bx)) (hs0:s0<d.next.length) (hw:Bd G vw wd) (hwl:wd.length≤1000000000) :
    Ba prog 53 [v,Vp bs,Vi q,vw] G [] fun r _ H'=>H'=[]∧r=Vi ((Cn7.aft (Av d) s0 wd):Int):=hq▸uV hd hk hB hs0 hw hwl
theorem aval_f {v:Value} {d:Cy} (hd:Hm G v d) (hv:Mb d=false) :
    Ba prog 52 [v] G [] fun r _ H'=>H'=[]∧r=.bool false:=hv▸rR hd
theorem pre7_bad {v w2:Value} {t:Tr} {d:Cy} (ht:Mp G v t) (hd:Hm G w2 d) (htok:Cn7.TrOk t) (hv:Mb d=false) :
  Ba prog 19 [v,w2] G [] fun r _ H'=>H'=[]∧r=.tuple #[.agg #[Vn,Vn,Vn],Vi 1]:=by
 obtain ⟨v1,v2,v3,v4,rfl,hTc,hTm,hTf,hTe⟩:=ht
 obtain ⟨A1,c1,rfl⟩:=hTc.slice
 obtain ⟨A2,c2,rfl⟩:=hTm.slice
 obtain ⟨A3,c3,rfl,_⟩:=id hTf
 obtain ⟨A4,c4,rfl⟩:=Eg hTe
 obtain ⟨vc,vn,va,rfl,hC,hN,hA⟩:=hd
 obtain ⟨Ac,cc,rfl⟩:=Bi.slice hC
 obtain ⟨An,cn,rfl⟩:=Bi.slice hN
 obtain ⟨Aa,ca,rfl,_⟩:=id hA
 refine Ba.of_T [(0,_),(1,_)] func19 rfl ntmps19 sM rfl fun w0 hs=>?_
 have hTc0:=hTc
 have hTm0:=hTm
 have hTf0:=hTf
 have hTe0:=hTe
 have hC0:=hC
 have hN0:=hN
 have hA0:=hA
 refine Wt 2 [] hs rfl<|O_s (Sb hs rfl fun b2 _ hs=>O_s (Sb hs rfl fun b3 _ hs=>O_s (Sa hs zeroValue37 rfl fun b4 _ hs=>Wp 6 [0,2] hs rfl<|O_s (Sp (Pb ⟨_,_,_,_,rfl,hTc,hTm,hTf,hTe⟩ htok) hs rfl fun v1 G' _ hR hG22 hs=>?_))))
 obtain rfl:=hR
 refine Wp 3 [1] hs rfl ?_
 replace hC:=hC.mono hG22
 replace hN:=hN.mono hG22
 replace hA:=hA.mono hG22
 refine Dh 24 rfl rfl (Sp (aval_f ⟨_,_,_,rfl,hC,hN,hA⟩ hv) hs rfl fun v2 G' _ hR hG26 hs=>?_)
 obtain rfl:=hR
 refine Wp 6 [0] hs rfl<|Zy hs (Ce zeroValue37 rfl nN rfl (cs:=[_,_,_]) rfl<|O_n (Sg hs rfl (rfl) fun _ hs=>Wp 2 [0] hs rfl<|As ?_))
 have hr:=hs
 refine By (vs:=[_,_]) results19 rfl ⟨Bq 0 hr isAgg37 sizeOf37 rfl (cs:=[_,_,_]) rfl rfl,rfl,trivial⟩ ?_
 try dsimp only [tup]
 exact hs.q rfl
theorem gJ {v w2:Value} {t:Tr} {d:Cy} (ht:Mp G v t) (hd:Hm G w2 d) (htok:Cn7.TrOk t) (hk:Cn7.DOk d) (h64:d.next.length≤64) (hT:Tab G) :
  Ba prog 19 [v,w2] G [] fun r G' H'=>H'=[]∧∃ R,nJ t d=some R∧DE G' r R:=by
 obtain ⟨v1,v2,v3,v4,rfl,hTc,hTm,hTf,hTe⟩:=ht
 obtain ⟨A1,c1,rfl⟩:=hTc.slice
 obtain ⟨A2,c2,rfl⟩:=hTm.slice
 obtain ⟨A3,c3,rfl,_⟩:=id hTf
 obtain ⟨A4,c4,rfl⟩:=Eg hTe
 obtain ⟨vc,vn,va,rfl,hC,hN,hA⟩:=hd
 obtain ⟨Ac,cc,rfl⟩:=Bi.slice hC
 obtain ⟨An,cn,rfl⟩:=Bi.slice hN
 obtain ⟨Aa,ca,rfl,_⟩:=id hA
 have hc1:t.cls.length≤256:=htok.part.k2
 have hc2:d.cls.length≤256:=hk.k2
 have hfl:=htok.fl
 have hel:=htok.el
 have hml2:=htok.n2
 have hdal:=hk.al
 obtain ⟨L,Rows,hexA,hAO,hsz,hpf⟩:=pre_run htok hk h64
 have hok0:∀ s∈[((0,0):Int×Int)],Cn7.preOk t d s:=fun s hs=>by rw [AaE.1 hs];exact kV htok hk
 rw [hpf]
 refine Ba.of_T [(0,_),(1,_)] func19 rfl ntmps19 sM rfl fun w0 hs=>?_
 have hTc0:=hTc
 have hTm0:=hTm
 have hTf0:=hTf
 have hTe0:=hTe
 have hC0:=hC
 have hN0:=hN
 have hA0:=hA
 have hT0:=hT
 refine Wt 2 [] hs rfl<|O_s (Sb hs rfl fun b2 _ hs=>O_s (Sb hs rfl fun b3 _ hs=>O_s (Sa hs zeroValue37 rfl fun b4 _ hs=>Wp 6 [0,2] hs rfl<|O_s (Sp (Pb ⟨_,_,_,_,rfl,hTc,hTm,hTf,hTe⟩ htok) hs rfl fun v1 G' _ hR hG22 hs=>?_))))
 obtain rfl:=hR
 refine Wp 3 [1] hs rfl ?_
 replace hC:=hC.mono hG22
 replace hN:=hN.mono hG22
 replace hA:=hA.mono hG22
 refine Dh 24 rfl rfl (Sp (Oz ⟨_,_,_,rfl,hC,hN,hA⟩ hk h64) hs rfl fun v2 G' _ hR hG26 hs=>?_)
 obtain rfl:=hR
 refine Wp 5 [0] hs rfl ?_
 have hs:=hs.f2
 obtain ⟨_,hGbhB2,hB2,hs⟩:=hs.fixBlk (fun k _=>Gb k)
 replace hB2:Cg _ b2 _:=hB2
 have hs:=hs.f1
 obtain ⟨_,hGbhB3,hB3,hs⟩:=hs.fixBlk (fun k _=>Gb k)
 replace hB3:Cg _ b3 _:=hB3
 have hGz:=hG22.trans (hG26.trans (hGbhB2.trans hGbhB3))
 replace hTc:=hTc.mono hGz
 replace hTm:=hTm.mono hGz
 replace hTf:=hTf.mono hGz
 replace hTe:=hTe.mono hGz
 replace hT:=hT.mono hGz
 have hGz:=hG26.trans (hGbhB2.trans hGbhB3)
 replace hC:=hC.mono hGz
 replace hN:=hN.mono hGz
 replace hA:=hA.mono hGz
 replace hB2:=hB2.mono hGbhB3
 refine Wu 1 [] hs rfl<|fE 2 [⟨0,30,fun G v=>v=Vp b2,Ft⟩,⟨1,31,fun G v=>v=.slice A1 t.cls.length c1,Ft⟩,⟨2,32,fun G v=>v=.agg (List.map Bx (Cv t.cls)).toArray,Ft⟩,⟨3,33,fun G v=>v=Vp b3,Ft⟩,⟨4,34,fun G v=>v=.slice Ac d.cls.length cc,Ft⟩,⟨5,35,fun G v=>v=.agg (List.map Bx (Cv d.cls)).toArray,Ft⟩,⟨6,6,fun G v=>Kb G v,Jt 80 (List.map Bx (List.replicate 256 0))⟩,⟨7,7,fun G v=>Kb G v,Jt 80 (List.map Bx (List.replicate 256 0))⟩] [(2,_),(3,_),(4,_)] hs ⟨rfl,rfl,rfl,trivial⟩ rfl kR kR (Wq.mem ⟨fun _ _ _ _ h=>h,fun _ _ _ _ h=>h,fun _ _ _ _ h=>h,fun _ _ _ _ h=>h,fun _ _ _ _ h=>h,fun _ _ _ _ h=>h,fun _ _ _ _ h=>h,fun _ _ _ _ h=>h,trivial⟩) (Wq.mem ⟨?_,?_,?_,?_,?_,?_,?_,?_,trivial⟩) ?_
 ·
  refine ⟨_,rfl,rfl,rfl,fun G1 Hx L1 w1 hG1 hs hL hd=>?_⟩
  refine Ev [(2,_)] ⟨hL.1,trivial⟩<|S_y hs rfl (Fq rA.p rfl (m:=0) rfl ?_)
  exact ⟨_,gLr _,rfl,hs⟩
 ·
  refine ⟨_,rfl,rfl,rfl,fun G1 Hx L1 w1 hG1 hs hL hd=>?_⟩
  obtain ⟨u30,hv30,hR30⟩:=hd _ (AaF (i:=0) rfl) kR
  replace hR30:u30=Vp b2:=hR30
  subst hR30
  refine Ev [(30,_)] ⟨hv30,trivial⟩ ?_
  replace hB2:=hB2.mono hG1
  refine S_y hs rfl (Yd isAgg28 rfl (hB2 0 _ rfl) ?_)
  exact ⟨_,gLr _,rfl,hs⟩
 ·
  refine ⟨_,rfl,rfl,rfl,fun G1 Hx L1 w1 hG1 hs hL hd=>?_⟩
  obtain ⟨u31,hv31,hR31⟩:=hd _ (AaF (i:=1) rfl) kR
  replace hR31:u31=.slice A1 t.cls.length c1:=hR31
  subst hR31
  refine Ev [(31,_)] ⟨hv31,trivial⟩ ?_
  replace hTc:=hTc.mono hG1
  replace hT:=hT.mono hG1
  refine Et (H1:=[]) (H:=_::Hx) hs rfl func45 rfl kR (Jo hTc oM hT) fun v3 G' H' _ hR hG32 hs=>?_
  obtain ⟨rfl,rfl⟩:=hR
  replace hs:St _ _ (_::Hx) _:=hs
  exact ⟨_,hG32,rfl,hs⟩
 ·
  refine ⟨_,rfl,rfl,rfl,fun G1 Hx L1 w1 hG1 hs hL hd=>?_⟩
  refine Ev [(3,_)] ⟨hL.2.1,trivial⟩<|S_y hs rfl (Fq O37_0.p rfl (m:=0) rfl ?_)
  exact ⟨_,gLr _,rfl,hs⟩
 ·
  refine ⟨_,rfl,rfl,rfl,fun G1 Hx L1 w1 hG1 hs hL hd=>?_⟩
  obtain ⟨u33,hv33,hR33⟩:=hd _ (AaF (i:=3) rfl) kR
  replace hR33:u33=Vp b3:=hR33
  subst hR33
  refine Ev [(33,_)] ⟨hv33,trivial⟩ ?_
  replace hB3:=hB3.mono hG1
  refine S_y hs rfl (Yd isAgg28 rfl (hB3 0 _ rfl) ?_)
  exact ⟨_,gLr _,rfl,hs⟩
 ·
  refine ⟨_,rfl,rfl,rfl,fun G1 Hx L1 w1 hG1 hs hL hd=>?_⟩
  obtain ⟨u34,hv34,hR34⟩:=hd _ (AaF (i:=4) rfl) kR
  replace hR34:u34=.slice Ac d.cls.length cc:=hR34
  subst hR34
  refine Ev [(34,_)] ⟨hv34,trivial⟩ ?_
  replace hC:=hC.mono hG1
  replace hT:=hT.mono hG1
  refine Et (H1:=[]) (H:=_::Hx) hs rfl func45 rfl kR (Jo hC oM hT) fun v4 G' H' _ hR hG35 hs=>?_
  obtain ⟨rfl,rfl⟩:=hR
  replace hs:St _ _ (_::Hx) _:=hs
  exact ⟨_,hG35,rfl,hs⟩
 ·
  refine ⟨_,rfl,rfl,rfl,fun G1 Hx L1 w1 hG1 hs hL hd=>?_⟩
  refine Ev [] trivial<|Bs hs zeroValue80 (cs:=(List.map Bx (List.replicate 256 0))) rfl fun b6 _ hs=>?_
  exact ⟨_,gLr _,⟨_,rfl⟩,hs⟩
 ·
  refine ⟨_,rfl,rfl,rfl,fun G1 Hx L1 w1 hG1 hs hL hd=>?_⟩
  refine Ev [] trivial<|Bs hs zeroValue80 (cs:=(List.map Bx (List.replicate 256 0))) rfl fun b7 _ hs=>?_
  exact ⟨_,gLr _,⟨_,rfl⟩,hs⟩
 intro G2 vals L2 w2 hG2 hs hL hv
 obtain ⟨hv32,hR32⟩:=hv _ (AaF (i:=2) rfl)
 replace hv32:Em L2 32=some (vals 2):=hv32
 replace hR32:(vals 2)=.agg (List.map Bx (Cv t.cls)).toArray:=hR32
 obtain ⟨hv35,hR35⟩:=hv _ (AaF (i:=5) rfl)
 replace hv35:Em L2 35=some (vals 5):=hv35
 replace hR35:(vals 5)=.agg (List.map Bx (Cv d.cls)).toArray:=hR35
 obtain ⟨hv6,hR6⟩:=hv _ (AaF (i:=6) rfl)
 replace hv6:Em L2 6=some (vals 6):=hv6
 replace hR6:Kb G2 (vals 6):=hR6
 obtain ⟨b6,hb6⟩:=hR6
 rw [hb6] at hv6
 obtain ⟨hv7,hR7⟩:=hv _ (AaF (i:=7) rfl)
 replace hv7:Em L2 7=some (vals 7):=hv7
 replace hR7:Kb G2 (vals 7):=hR7
 obtain ⟨b7,hb7⟩:=hR7
 rw [hb7] at hv7
 simp only [Ff,Aan,List.flatMap_nil,cond_true,Ft,Jt,fD,AbA,AaX,Abc,List.singleton_append,hb6,hb7] at hs
 obtain ⟨u32,hu32⟩:∃ u,u=vals 2:=⟨_,rfl⟩
 rw [← hu32] at hv32 hR32
 clear hu32
 subst hR32
 obtain ⟨u35,hu35⟩:∃ u,u=vals 5:=⟨_,rfl⟩
 rw [← hu35] at hv35 hR35
 clear hu35
 subst hR35
 refine pS [(32,_),(35,_),(6,_),(7,_),(2,_),(3,_),(4,_)] ⟨hv32,hv35,hv6,hv7,hL.1,hL.2.1,hL.2.2.1,trivial⟩<|Xn 8 rfl (Sw hs.f1 rfl (vs:=(List.map Bx (Cv t.cls))) Z14 Z14 (Hb) fun _ hs=>Xn 9 rfl (Sw hs.f2 rfl (vs:=(List.map Bx (Cv d.cls))) Z14 Z14 (Hb) fun _ hs=>Xe (Zk [2,3,4,6,7] rfl<|Wt 2 [] hs rfl<|Zy hs (Dr underlying97 sizeOf3 zeroValue97 rfl rfl (cs:=[_,_]) rfl<|O_s (Sa hs zeroValue97 rfl fun b8 _ hs=>O_n (Sg hs rfl (rfl) fun _ hs=>Wp 3 [0] hs rfl<|O_s (Fm hs fun b37 _ hs =>Zy hs (Dr underlying97 sizeOf3 zeroValue97 rfl rfl (cs:=[_,_]) rfl<|O_n (fC (ks:=([]:List (Int×Int))) (a:=(0,0)) (enc:=pairI) hs underlying98 oB Aaz (by simp [Bc]) rfl rfl rfl fun _ hs =>Wp 5 [0] hs rfl<|Zy hs (Dr underlying97 sizeOf3 zeroValue97 rfl rfl (cs:=[_,_]) rfl<|O_s (Bw hs underlying99 sizeOf97 zeroValue97 rfl rfl dC dC rfl (cs:=[_,_]) rfl rfl fun v5 _ hs _ =>Wp 4 [0] hs rfl<|Zy hs (Ce zeroValue103 rfl PL103 rfl (cs:=[_,_]) rfl ?_))))))))))))
 refine O_s (Sb hs rfl fun b43 _ hs=>Wp 7 [0,0] hs rfl ?_)
 have hs:=hs.f5
 obtain ⟨_,hGbhB6,hB6,hs⟩:=hs.fixBlk (fun k _=>Gb k)
 replace hB6:Cg _ b6 _:=hB6
 have hs:=hs.f4
 obtain ⟨_,hGbhB7,hB7,hs⟩:=hs.fixBlk (fun k _=>Gb k)
 replace hB7:Cg _ b7 _:=hB7
 have hs:=hs.f3
 obtain ⟨_,hGbhB8,hB8,hs⟩:=hs.fixBlk (fun k _=>Gb k)
 replace hB8:Cg _ b8 _:=hB8
 have hs:=hs.nilRow 4 1
 have hs:=hs.nilRow 80 256
 have hs:=hs.f5.f2.f2.f3.f4.f5
 obtain ⟨Gp0,hGp⟩:=hs.name
 subst hGp
 replace hTc:=hTc.mono (hG2.trans (hGbhB6.trans (hGbhB7.trans hGbhB8)))
 have hTc_0:=hTc
 replace hTm:=hTm.mono (hG2.trans (hGbhB6.trans (hGbhB7.trans hGbhB8)))
 have hTm_0:=hTm
 replace hTf:=hTf.mono (hG2.trans (hGbhB6.trans (hGbhB7.trans hGbhB8)))
 have hTf_0:=hTf
 replace hTe:=hTe.mono (hG2.trans (hGbhB6.trans (hGbhB7.trans hGbhB8)))
 have hTe_0:=hTe
 replace hC:=hC.mono (hG2.trans (hGbhB6.trans (hGbhB7.trans hGbhB8)))
 have hC_0:=hC
 replace hN:=hN.mono (hG2.trans (hGbhB6.trans (hGbhB7.trans hGbhB8)))
 have hN_0:=hN
 replace hA:=hA.mono (hG2.trans (hGbhB6.trans (hGbhB7.trans hGbhB8)))
 have hA_0:=hA
 replace hT:=hT.mono (hG2.trans (hGbhB6.trans (hGbhB7.trans hGbhB8)))
 have hT_0:=hT
 replace hB2:=hB2.mono (hG2.trans (hGbhB6.trans (hGbhB7.trans hGbhB8)))
 have hB2_0:=hB2
 replace hB3:=hB3.mono (hG2.trans (hGbhB6.trans (hGbhB7.trans hGbhB8)))
 have hB3_0:=hB3
 replace hB6:=hB6.mono (hGbhB7.trans hGbhB8)
 have hB6_0:=hB6
 replace hB7:=hB7.mono hGbhB8
 have hB7_0:=hB7
 have hB8_0:=hB8
 refine Zl [2,3,4,6,7,8,9,10,11,12] (fun m E w=>∃ (f i:Nat) (l:List (Int×Int)) (rows:List (List Nat)) (vpr vn va:Value) (G2:Ah),Cu Gp0 G2∧Cn7.exA (List.range 256) (Ni t (Av d)) f i l rows=some (L,Rows)∧l.Nodup∧(∀ s∈l,Cn7.preOk t d s)∧i≤l.length∧rows.length=i∧(∀ r∈rows,r.length=256)∧m=f∧E=⟨[],[(2,Vp b2),(3,Vp b3),(4,Vp b4),(6,Vp b6),(7,Vp b7),(8,Vp b8),(9,.map (some b37)),(10,vpr),(11,Vp b43),(12,Vi (i:Int))]⟩∧St ⟨w0,G,Bj []⟩ G2 [.obj b37 (.map (En pairI l).toArray l.length),.row 97 2 (vpr) l.length (piF l),.blk b43 103 [vn,va],.row 80 256 (vn) rows.length (uX rows),.row 4 1 (va) ((l.take i).map (Jz t (Av d))).length (((l.take i).map (Jz t (Av d))).map Da),.blk b4 37 [Vn,Vn,Vn]] w) rfl (⟨5000,0,[(0,0)],[],_,_,_,_,Cu.refl _,hexA,by simp,hok0,by simp,rfl,by simp,rfl,rfl,hs⟩) fun m E w hI=>?_
 obtain ⟨f,i,l,rows,vpr,vn,va,G2,hlg0,hex,hlnd,hlok,hil9,hrl9,hr256,rfl,rfl,hs⟩:=hI
 have hTc:=hTc_0.mono hlg0
 have hTm:=hTm_0.mono hlg0
 have hTf:=hTf_0.mono hlg0
 have hTe:=hTe_0.mono hlg0
 have hC:=hC_0.mono hlg0
 have hN:=hN_0.mono hlg0
 have hA:=hA_0.mono hlg0
 have hT:=hT_0.mono hlg0
 have hB2:=hB2_0.mono hlg0
 have hB3:=hB3_0.mono hlg0
 have hB6:=hB6_0.mono hlg0
 have hB7:=hB7_0.mono hlg0
 have hB8:=hB8_0.mono hlg0
 refine Wt 5 [] hs rfl<|Zy hs (Dl 1 rfl underlying99 rfl hs<|Zy hs (Yc rfl (fun h47=>?_) fun h47=>?_))
 ·
  refine Wp 3 [0] hs rfl ?_
  have hfp:=rX hex
  obtain ⟨f1,rfl⟩:∃ g,m=g+1:=⟨m-1,by omega⟩
  have hil:i<l.length:=by omega
  have hgo:=exA_go hil hex
  obtain ⟨⟨p,q⟩,hse⟩:∃ s,s=l[i]:=⟨_,rfl⟩
  rw [← hse] at hgo
  obtain ⟨bl,capl,hzbl,_⟩:=hs.rowForm 1 rfl oM
  subst hzbl
  refine Wu 3 [] hs rfl<|Bg [0,1,2,3,4,5,6,7,8,9,10,11] hs kR ?_
  replace hs:=hs.drew
  refine Xr [0,1] [] hs rfl<|Xt 2 hs rfl (Cl i underlying99 sizeOf97 rfl rfl rfl hil<|Xt 3 hs rfl (Jh (m:=i*2) 0 underlying97 sizeOf3 rfl rfl rfl oM oM<|Xt 4 hs rfl (Sm (v:=Vi p) 1 rfl isAgg3 rfl (by rw [(oC hil).1,← hse])<|Xr [5,6] [] hs rfl<|Xt 7 hs rfl (Cl i underlying99 sizeOf97 rfl rfl rfl hil<|Xt 8 hs rfl (Jh (m:=i*2+1) 1 underlying97 sizeOf3 rfl rfl rfl oM oM<|Xt 9 hs rfl (Sm (v:=Vi q) 1 rfl isAgg3 rfl (by rw [(oC hil).2,← hse])<|Xr [10,11] [] hs rfl<|Xe (Zk [2,3,4,6,7,8,9,10,11,12,13,14] rfl<|Wu 2 [] hs rfl<|O_s (Bs hs zeroValue80 (cs:=(List.map Bx (List.replicate 256 0))) rfl fun b15 _ hs =>Wp 6 [0,0] hs rfl ?_))))))))
  have hs:=hs.f6.f6.f6.f6.f6.f6.f6
  have hpq0:(p,q)∈l:=by rw [hse];exact AaD _
  obtain ⟨Gp1,hGp⟩:=hs.name
  subst hGp
  have hTc_1:=hTc
  have hTm_1:=hTm
  have hTf_1:=hTf
  have hTe_1:=hTe
  have hC_1:=hC
  have hN_1:=hN
  have hA_1:=hA
  have hT_1:=hT
  have hB2_1:=hB2
  have hB3_1:=hB3
  have hB6_1:=hB6
  have hB7_1:=hB7
  have hB8_1:=hB8
  have hlg0_1:=hlg0
  refine Zl [2,3,4,6,7,8,9,10,11,12,13,14,15,60] (fun m E w=>∃ (k:Nat) (l2:List (Int×Int)) (r:List Nat) (vpr2:Value) (G2:Ah),Cu Gp1 G2∧k≤256∧(l2,r)=(List.range k).foldl (fun st b=>Cn7.exS (Ni t (Av d) (p,q) b) st) (l,[])∧m=256-k∧E=⟨[],[(2,Vp b2),(3,Vp b3),(4,Vp b4),(6,Vp b6),(7,Vp b7),(8,Vp b8),(9,.map (some b37)),(10,vpr2),(11,Vp b43),(12,Vi (i:Int)),(13,Vi p),(14,Vi q),(15,Vp b15),(60,Vi (k:Int))]⟩∧St ⟨w0,G,Bj []⟩ G2 [.blk b15 80 (List.map Bx (r++List.replicate (256-k) 0)),.obj b37 (.map (En pairI l2).toArray l2.length),.row 97 2 (vpr2) l2.length (piF l2),.blk b43 103 [vn,va],.row 80 256 (vn) rows.length (uX rows),.row 4 1 (va) ((l.take i).map (Jz t (Av d))).length (((l.take i).map (Jz t (Av d))).map Da),.blk b4 37 [Vn,Vn,Vn]] w) rfl (⟨0,l,[],_,_,Cu.refl _,by omega,rfl,rfl,rfl,hs⟩) fun m E w hI=>?_
  obtain ⟨k,l2,r,vpr2,G2,hlg1,hk9,hfo,rfl,rfl,hs⟩:=hI
  have hTc:=hTc_1.mono hlg1
  have hTm:=hTm_1.mono hlg1
  have hTf:=hTf_1.mono hlg1
  have hTe:=hTe_1.mono hlg1
  have hC:=hC_1.mono hlg1
  have hN:=hN_1.mono hlg1
  have hA:=hA_1.mono hlg1
  have hT:=hT_1.mono hlg1
  have hB2:=hB2_1.mono hlg1
  have hB3:=hB3_1.mono hlg1
  have hB6:=hB6_1.mono hlg1
  have hB7:=hB7_1.mono hlg1
  have hB8:=hB8_1.mono hlg1
  have hlg0:=hlg0_1.mono hlg1
  obtain ⟨hnd,hlok2,hrl,mx,hl2⟩:=gH (fun b=>kU htok hk (p,q) (hlok _ hpq0) b) hlnd hlok _ hfo
  have hl2l:l.length≤l2.length:=by rw [hl2,AaB];omega
  have hpqm:(p,q)∈l2:=by rw [hl2];exact AaY _ hpq0
  have hlmx:=pre_max htok h64 hnd hlok2
  refine Wt 2 [] hs rfl<|Zy hs (Yc rfl (fun h61=>?_) fun h61=>?_)
  ·
   refine Wp 13 [0,0] hs rfl<|Zy hs (Db (vs:=[Vi (-1),Vi (-1)]) isAgg97 sizeOf97 rfl hB8.whole rfl<|O_s (Sa hs zeroValue97 rfl fun b17 _ hs=>O_n (Sg hs rfl (rfl) fun _ hs=>Wp 3 [0] hs rfl<|Bg [0,1,2,3,4,5,6,7,8,9,10,11,12,13,14,15] hs kR ?_)))
   replace hs:=hs.drew
   refine Xr [0] [] hs rfl<|Xt 1 hs rfl (Qn rfl rfl rfl (fun h65=>?_) (fun h65=>?_))
   ·
    dsimp only [Jg] at h65
    obtain ⟨pn,qn,hpn,hqn,hpl,hql⟩:=pre_pq (hlok2 _ hpqm) h65
    obtain ⟨rr,herr⟩:∃ q9,t.moves[pn]'hpl=q9:=⟨_,rfl⟩
    have hlrr:=htok.row rr Z42
    obtain ⟨ci,hce⟩:∃ z,z=(Cv t.cls).getD (UInt8.ofNat k).toNat 0:=⟨_,rfl⟩
    have hci:ci<t.cls.length:=by rw [hce];exact htok.cell _
    obtain ⟨mv,hmv⟩:∃ q9,rr[ci]'oM=q9:=⟨_,rfl⟩
    have hmF:Dv t pn (UInt8.ofNat k)=mv:=by unfold Dv;rw [← hce,Cn7.gD (show pn<t.moves.length by omega),herr,Cn7.gD oM,hmv]
    have hmb:=htok.mv (show pn<t.moves.length by omega) (UInt8.ofNat k)
    rw [hmF] at hmb
    refine Xr [2,3] [1] hs rfl<|Xt 4 hs rfl (Yg rfl (hB2 1 _ rfl)<|Xr [5] [] hs rfl<|Xt 6 hs rfl (Ca hTm pn underlying29 sizeOf71 rfl rfl hpn oM fun p70 cc70 hp70 hc70 hR70=>?_))
    rw [herr] at hR70
    obtain ⟨u70,rfl,hrr⟩:=hR70
    obtain ⟨A70,c70,rfl⟩:=hrr.slice
    refine Xt 7 hs rfl (Yg rfl (hp70 0 _ rfl)<|Xr [8] [] hs rfl<|Xt 9 hs rfl (Bp (k) underlying80 sizeOf3 rfl rfl rfl oM<|Xt 10 hs rfl (Yg rfl (hB6 k (Bl ci) Z26)<|Xt 11 hs rfl (Ca hrr ci underlying71 sizeOf74 rfl rfl rfl oM fun p75 cc75 hp75 hc75 hR75=>?_))))
    rw [hmv] at hR75
    obtain ⟨u75,rfl,hpc0⟩:=hR75
    obtain ⟨A75,c75,rfl⟩:=hpc0.slice
    refine Xt 12 hs rfl (Nf O74_0.p rfl<|Xt 13 hs rfl (Yg rfl (hp75 0 _ rfl)<|Xt 14 hs rfl (Qn rfl rfl rfl (fun h78=>?_) (fun h78=>?_))))
    ·
     dsimp only [Jg] at h78
     refine Xr [15] [] hs rfl<|Xe (Zk [2,3,4,6,7,8,9,10,11,12,13,14,15,16,17,60,79] rfl ?_)
     have hs:=hs.f7.f7.f7.f7.f7.f7.f7.f7
     obtain ⟨GpJif79,hGp⟩:=hs.name
     subst hGp
     have hTc_Jif79:=hTc
     have hTm_Jif79:=hTm
     have hTf_Jif79:=hTf
     have hTe_Jif79:=hTe
     have hC_Jif79:=hC
     have hN_Jif79:=hN
     have hA_Jif79:=hA
     have hT_Jif79:=hT
     have hB2_Jif79:=hB2
     have hB3_Jif79:=hB3
     have hB6_Jif79:=hB6
     have hB7_Jif79:=hB7
     have hB8_Jif79:=hB8
     have hlg0_Jif79:=hlg0
     have hlg1_Jif79:=hlg1
     have hlgJif79:=Cu.refl GpJif79
     refine Lo (fun E w=>∃ (to:Int×Int) (G2:Ah),Cu GpJif79 G2∧to=Ni t (Av d) (p,q) k∧E=⟨[],[(2,Vp b2),(3,Vp b3),(4,Vp b4),(6,Vp b6),(7,Vp b7),(8,Vp b8),(9,.map (some b37)),(10,vpr2),(11,Vp b43),(12,Vi (i:Int)),(13,Vi p),(14,Vi q),(15,Vp b15),(16,Vi (k:Int)),(17,Vp b17),(60,Vi (k:Int))]⟩∧St ⟨w0,G,Bj []⟩ G2 [.blk b17 97 [Vi to.1,Vi to.2],.blk b15 80 (List.map Bx (r++List.replicate (256-k) 0)),.obj b37 (.map (En pairI l2).toArray l2.length),.row 97 2 (vpr2) l2.length (piF l2),.blk b43 103 [vn,va],.row 80 256 (vn) rows.length (uX rows),.row 4 1 (va) ((l.take i).map (Jz t (Av d))).length (((l.take i).map (Jz t (Av d))).map Da),.blk b4 37 [Vn,Vn,Vn]] w) ?_ ?_
     ·
      refine Wt 2 [] hs rfl<|Bg [0,1,2,3,4,5,6,7,8,9,10] hs kR ?_
      replace hs:=hs.drew
      refine Xr [0] [1] hs rfl<|Xt 1 hs rfl (Yg rfl (hB2 1 _ rfl)<|Xr [2] [] hs rfl<|Xt 3 hs rfl (Ca hTm pn underlying29 sizeOf71 rfl rfl hpn oM fun p83 cc83 hp83 hc83 hR83=>?_))
      rw [herr] at hR83
      obtain ⟨u83,rfl,hrs⟩:=hR83
      obtain ⟨A83,c83,rfl⟩:=hrs.slice
      refine Xt 4 hs rfl (Yg rfl (hp83 0 _ rfl)<|Xr [5] [] hs rfl<|Xt 6 hs rfl (Bp (k) underlying80 sizeOf3 rfl rfl rfl oM<|Xt 7 hs rfl (Yg rfl (hB6 k (Bl ci) Z26)<|Xt 8 hs rfl (Ca hrs ci underlying71 sizeOf74 rfl rfl rfl oM fun p88 cc88 hp88 hc88 hR88=>?_))))
      rw [hmv] at hR88
      obtain ⟨u88,rfl,hpc⟩:=hR88
      obtain ⟨A88,c88,rfl⟩:=hpc.slice
      refine Xt 9 hs rfl (Db (vs:=[Vi mv.to,.slice A88 mv.out.length c88]) isAgg74 sizeOf74 rfl hp88 hc88 ?_)
      have hle:=hs.le
      refine Xo 10 rfl (Sa hs zeroValue74 rfl fun b18 _ hs=>Ai hs hle (gLr _) (Aax _ _)<|Xn 11 rfl (Sg hs rfl (rfl) fun _ hs=>Xe (Zk [2,3,4,6,7,8,9,10,11,12,13,14,15,16,17,18,60] rfl<|Bg [0,1,2,3,4,5,6,7,8,9,10] hs kR ?_)))
      replace hs:=hs.drew
      refine Xr [0,1] [0,0] hs rfl<|Xt 2 hs rfl (Db (vs:=[.slice Ac d.cls.length cc,.slice An d.next.length cn,.slice Aa d.acc.length ca]) isAgg37 sizeOf37 rfl hB3.whole rfl<|Xr [3,4,5,6] [1,0] hs rfl<|Xt 7 hs rfl (Dj underlying3 underlying5 (c:=((UInt8.ofNat k).toNat:Int)) rfl (Dx _) ?_))
      have hle:=hs.le
      refine Xo 8 rfl (Sc (gC (b:=UInt8.ofNat k) hpc oM) hs rfl fun v6 G' H' _ hR hG98 hs=>?_)
      obtain ⟨rfl,hw⟩:=hR
      obtain ⟨A98,c98,rfl,_⟩:=id hw
      replace hs:=hs.n rfl
      replace hC:=hC.mono hG98
      replace hN:=hN.mono hG98
      replace hA:=hA.mono hG98
      replace hB7:=hB7.mono hG98
      replace hlgJif79:=hlgJif79.mono hG98
      refine Ai hs hle hG98 (lSr _) ?_
      have hle:=hs.le
      refine Xo 9 rfl (Sp (kW hqn ⟨_,_,_,rfl,hC,hN,hA⟩ hk hB7 hql hw Z60) hs rfl fun v7 G' _ hR hG99 hs=>?_)
      obtain rfl:=hR
      replace hlgJif79:=hlgJif79.mono hG99
      refine Ai hs hle hG99 (lSr _)<|Xt 10 hs rfl (Dr underlying97 sizeOf3 zeroValue97 rfl rfl (cs:=[_,_]) rfl<|Xn 11 rfl (Sg hs.f1 rfl (rfl) fun _ hs=>?_))
      have hs:=hs.f8.f8.f8.f8.f8.f8.f8.f7
      exact Fu kR (⟨[(2,_),(3,_),(4,_),(6,_),(7,_),(8,_),(9,_),(10,_),(11,_),(12,_),(13,_),(14,_),(15,_),(16,_),(17,_),(60,_)],⟨rfl,rfl,rfl,rfl,rfl,rfl,rfl,rfl,rfl,rfl,rfl,rfl,rfl,rfl,rfl,rfl,trivial⟩,⟨(mv.to,((Cn7.aft (Av d) qn (Gt mv.out (UInt8.ofNat k)):Nat):Int)),_,hlgJif79,(preN_y hpn hqn hmF oM).symm,rfl,hs.wk [_,_,_,_,_,_,_,_]⟩⟩)
     clear hs
     intro D M L w hL hI
     obtain ⟨to,G2,hlgJif79,hto,hE,hs⟩:=hI
     cases hE
     refine Oh _ hL ?_
     have hTc:=hTc_Jif79.mono hlgJif79
     have hTm:=hTm_Jif79.mono hlgJif79
     have hTf:=hTf_Jif79.mono hlgJif79
     have hTe:=hTe_Jif79.mono hlgJif79
     have hC:=hC_Jif79.mono hlgJif79
     have hN:=hN_Jif79.mono hlgJif79
     have hA:=hA_Jif79.mono hlgJif79
     have hT:=hT_Jif79.mono hlgJif79
     have hB2:=hB2_Jif79.mono hlgJif79
     have hB3:=hB3_Jif79.mono hlgJif79
     have hB6:=hB6_Jif79.mono hlgJif79
     have hB7:=hB7_Jif79.mono hlgJif79
     have hB8:=hB8_Jif79.mono hlgJif79
     have hlg0:=hlg0_Jif79.mono hlgJif79
     have hlg1:=hlg1_Jif79.mono hlgJif79
     refine Wt 4 [0] hs rfl<|Zy hs (Fp (a:=to) 2 rfl underlying98 oB zeroValue3 hnd rfl rfl (fun hno=>?_) (fun hyes=>?_))
     ·
      refine Wp 16 [18,2,3,4,6,7,8,9,10,11,12,13,14,15,16,17,19,20,60,0] hs rfl<|Zy hs (Dl 3 rfl underlying99 rfl hs<|Wp 7 [0,0] hs rfl<|O_n (Ks (a:=to) hs.f2 underlying98 oB hnd hno rfl rfl rfl fun _ hs =>Wp 4 [17,2,3,4,6,7,8,9,10,11,12,13,14,15,16,17,19,60,1] hs rfl<|O_s (Bw hs underlying99 sizeOf97 zeroValue97 rfl rfl dC dC rfl (cs:=[_,_]) rfl rfl fun v8 _ hs _=>?_)))
      obtain ⟨_,hG116,hl116,hs⟩:=hs.fixRow noM
      refine O_s (Au hs.f3 underlying99 TI97 rfl dC rfl rfl (hl116) (gI) oM oM fun v9 _ hs =>Wp 5 [0] hs rfl<|Zy hs (Bp (k) underlying80 sizeOf3 rfl rfl rfl oM<|O_n (Gc hs.f3 sizeOf3 rfl rfl rfl Z21 (cs':=(List.map Bx ((r++[l2.length])++List.replicate (256 - (k+1)) 0))) Z38 fun _ hs =>Wp 1 [14,2,3,4,6,7,8,9,10,11,12,13,14,15,60] hs rfl ?_)))
      refine Zr<|Zy hs (Ya (s:=((k+1:Nat):Int)) rfl<|Wp 1 [] hs rfl ?_)
      have hs:=hs.f7.f7.f7.f7.f5.f6.f6
      replace hlg1:=hlg1.mono hG116
      refine Zx [2,3,4,6,7,8,9,10,11,12,13,14,15,60] rfl ⟨k+1,l2++[to],r++[l2.length],v9,_,hlg1,by omega,by rw [Ib,← hfo,← hto,Tl hno],rfl,rfl,Bh (hs.wk [_,_,_,_,_,_,_]) (by simp [bL])⟩
     refine Wp 17 [18,2,3,4,6,7,8,9,10,11,12,13,14,15,16,17,19,20,60,0] hs rfl<|Zy hs (Bp (k) underlying80 sizeOf3 rfl rfl rfl oM<|O_n (Gc hs.f1 sizeOf3 rfl rfl rfl Z21 (cs':=(List.map Bx ((r++[(Bc to l2)])++List.replicate (256 - (k+1)) 0))) Z38 fun _ hs =>Wp 1 [0] hs rfl ?_))
     refine Zr<|Zy hs (Ya (s:=((k+1:Nat):Int)) rfl<|Wp 1 [] hs rfl ?_)
     have hs:=hs.f7.f7.f7.f7.f7.f7.f6
     refine Zx [2,3,4,6,7,8,9,10,11,12,13,14,15,60] rfl ⟨k+1,l2,r++[Bc to l2],vpr2,_,hlg1,by omega,by rw [Ib,← hfo,← hto,Tk hyes],rfl,rfl,(hs.wk [_,_,_,_,_,_,_])⟩
    dsimp only [Jg] at h78
    refine Xr [15] [] hs rfl<|Xe (Zk [2,3,4,6,7,8,9,10,11,12,13,14,15,16,17,60,79] rfl ?_)
    have hs:=hs.f7.f7.f7.f7.f7.f7.f7.f7
    obtain ⟨GpJif79,hGp⟩:=hs.name
    subst hGp
    have hTc_Jif79:=hTc
    have hTm_Jif79:=hTm
    have hTf_Jif79:=hTf
    have hTe_Jif79:=hTe
    have hC_Jif79:=hC
    have hN_Jif79:=hN
    have hA_Jif79:=hA
    have hT_Jif79:=hT
    have hB2_Jif79:=hB2
    have hB3_Jif79:=hB3
    have hB6_Jif79:=hB6
    have hB7_Jif79:=hB7
    have hB8_Jif79:=hB8
    have hlg0_Jif79:=hlg0
    have hlg1_Jif79:=hlg1
    have hlgJif79:=Cu.refl GpJif79
    refine Lo (fun E w=>∃ (to:Int×Int) (G2:Ah),Cu GpJif79 G2∧to=Ni t (Av d) (p,q) k∧E=⟨[],[(2,Vp b2),(3,Vp b3),(4,Vp b4),(6,Vp b6),(7,Vp b7),(8,Vp b8),(9,.map (some b37)),(10,vpr2),(11,Vp b43),(12,Vi (i:Int)),(13,Vi p),(14,Vi q),(15,Vp b15),(16,Vi (k:Int)),(17,Vp b17),(60,Vi (k:Int))]⟩∧St ⟨w0,G,Bj []⟩ G2 [.blk b17 97 [Vi to.1,Vi to.2],.blk b15 80 (List.map Bx (r++List.replicate (256-k) 0)),.obj b37 (.map (En pairI l2).toArray l2.length),.row 97 2 (vpr2) l2.length (piF l2),.blk b43 103 [vn,va],.row 80 256 (vn) rows.length (uX rows),.row 4 1 (va) ((l.take i).map (Jz t (Av d))).length (((l.take i).map (Jz t (Av d))).map Da),.blk b4 37 [Vn,Vn,Vn]] w) ?_ ?_
    ·
     refine Wt 2 [] hs rfl ?_
     have hs:=hs.f7.f7.f7.f7.f7.f7.f7.f7
     exact ⟨[(2,_),(3,_),(4,_),(6,_),(7,_),(8,_),(9,_),(10,_),(11,_),(12,_),(13,_),(14,_),(15,_),(16,_),(17,_),(60,_)],⟨rfl,rfl,rfl,rfl,rfl,rfl,rfl,rfl,rfl,rfl,rfl,rfl,rfl,rfl,rfl,rfl,trivial⟩,⟨(-1,-1),_,hlgJif79,(preN_n hpn hmF oM).symm,rfl,hs.wk [_,_,_,_,_,_,_,_]⟩⟩
    clear hs
    intro D M L w hL hI
    obtain ⟨to,G2,hlgJif79,hto,hE,hs⟩:=hI
    cases hE
    refine Oh _ hL ?_
    have hTc:=hTc_Jif79.mono hlgJif79
    have hTm:=hTm_Jif79.mono hlgJif79
    have hTf:=hTf_Jif79.mono hlgJif79
    have hTe:=hTe_Jif79.mono hlgJif79
    have hC:=hC_Jif79.mono hlgJif79
    have hN:=hN_Jif79.mono hlgJif79
    have hA:=hA_Jif79.mono hlgJif79
    have hT:=hT_Jif79.mono hlgJif79
    have hB2:=hB2_Jif79.mono hlgJif79
    have hB3:=hB3_Jif79.mono hlgJif79
    have hB6:=hB6_Jif79.mono hlgJif79
    have hB7:=hB7_Jif79.mono hlgJif79
    have hB8:=hB8_Jif79.mono hlgJif79
    have hlg0:=hlg0_Jif79.mono hlgJif79
    have hlg1:=hlg1_Jif79.mono hlgJif79
    refine Wt 4 [0] hs rfl<|Zy hs (Fp (a:=to) 2 rfl underlying98 oB zeroValue3 hnd rfl rfl (fun hno=>?_) (fun hyes=>?_))
    ·
     refine Wp 16 [18,2,3,4,6,7,8,9,10,11,12,13,14,15,16,17,19,20,60,0] hs rfl<|Zy hs (Dl 3 rfl underlying99 rfl hs<|Wp 7 [0,0] hs rfl<|O_n (Ks (a:=to) hs.f2 underlying98 oB hnd hno rfl rfl rfl fun _ hs =>Wp 4 [17,2,3,4,6,7,8,9,10,11,12,13,14,15,16,17,19,60,1] hs rfl<|O_s (Bw hs underlying99 sizeOf97 zeroValue97 rfl rfl dC dC rfl (cs:=[_,_]) rfl rfl fun v10 _ hs _=>?_)))
     obtain ⟨_,hG116,hl116,hs⟩:=hs.fixRow noM
     refine O_s (Au hs.f3 underlying99 TI97 rfl dC rfl rfl (hl116) (gI) oM oM fun v11 _ hs =>Wp 5 [0] hs rfl<|Zy hs (Bp (k) underlying80 sizeOf3 rfl rfl rfl oM<|O_n (Gc hs.f3 sizeOf3 rfl rfl rfl Z21 (cs':=(List.map Bx ((r++[l2.length])++List.replicate (256 - (k+1)) 0))) Z38 fun _ hs =>Wp 1 [14,2,3,4,6,7,8,9,10,11,12,13,14,15,60] hs rfl ?_)))
     refine Zr<|Zy hs (Ya (s:=((k+1:Nat):Int)) rfl<|Wp 1 [] hs rfl ?_)
     have hs:=hs.f7.f7.f7.f7.f5.f6.f6
     replace hlg1:=hlg1.mono hG116
     refine Zx [2,3,4,6,7,8,9,10,11,12,13,14,15,60] rfl ⟨k+1,l2++[to],r++[l2.length],v11,_,hlg1,by omega,by rw [Ib,← hfo,← hto,Tl hno],rfl,rfl,Bh (hs.wk [_,_,_,_,_,_,_]) (by simp [bL])⟩
    refine Wp 17 [18,2,3,4,6,7,8,9,10,11,12,13,14,15,16,17,19,20,60,0] hs rfl<|Zy hs (Bp (k) underlying80 sizeOf3 rfl rfl rfl oM<|O_n (Gc hs.f1 sizeOf3 rfl rfl rfl Z21 (cs':=(List.map Bx ((r++[(Bc to l2)])++List.replicate (256 - (k+1)) 0))) Z38 fun _ hs =>Wp 1 [0] hs rfl ?_))
    refine Zr<|Zy hs (Ya (s:=((k+1:Nat):Int)) rfl<|Wp 1 [] hs rfl ?_)
    have hs:=hs.f7.f7.f7.f7.f7.f7.f6
    refine Zx [2,3,4,6,7,8,9,10,11,12,13,14,15,60] rfl ⟨k+1,l2,r++[Bc to l2],vpr2,_,hlg1,by omega,by rw [Ib,← hfo,← hto,Tk hyes],rfl,rfl,(hs.wk [_,_,_,_,_,_,_])⟩
   dsimp only [Jg] at h65
   refine Xr [2,3,4,5,6,7,8,9,10,11,12,13,14,15] [] hs rfl<|Xe (Zk [2,3,4,6,7,8,9,10,11,12,13,14,15,16,17,60,79] rfl ?_)
   have hs:=hs.f7.f7.f7.f7.f7.f7.f7.f7
   obtain ⟨GpJif79,hGp⟩:=hs.name
   subst hGp
   have hTc_Jif79:=hTc
   have hTm_Jif79:=hTm
   have hTf_Jif79:=hTf
   have hTe_Jif79:=hTe
   have hC_Jif79:=hC
   have hN_Jif79:=hN
   have hA_Jif79:=hA
   have hT_Jif79:=hT
   have hB2_Jif79:=hB2
   have hB3_Jif79:=hB3
   have hB6_Jif79:=hB6
   have hB7_Jif79:=hB7
   have hB8_Jif79:=hB8
   have hlg0_Jif79:=hlg0
   have hlg1_Jif79:=hlg1
   have hlgJif79:=Cu.refl GpJif79
   refine Lo (fun E w=>∃ (to:Int×Int) (G2:Ah),Cu GpJif79 G2∧to=Ni t (Av d) (p,q) k∧E=⟨[],[(2,Vp b2),(3,Vp b3),(4,Vp b4),(6,Vp b6),(7,Vp b7),(8,Vp b8),(9,.map (some b37)),(10,vpr2),(11,Vp b43),(12,Vi (i:Int)),(13,Vi p),(14,Vi q),(15,Vp b15),(16,Vi (k:Int)),(17,Vp b17),(60,Vi (k:Int))]⟩∧St ⟨w0,G,Bj []⟩ G2 [.blk b17 97 [Vi to.1,Vi to.2],.blk b15 80 (List.map Bx (r++List.replicate (256-k) 0)),.obj b37 (.map (En pairI l2).toArray l2.length),.row 97 2 (vpr2) l2.length (piF l2),.blk b43 103 [vn,va],.row 80 256 (vn) rows.length (uX rows),.row 4 1 (va) ((l.take i).map (Jz t (Av d))).length (((l.take i).map (Jz t (Av d))).map Da),.blk b4 37 [Vn,Vn,Vn]] w) ?_ ?_
   ·
    refine Wt 2 [] hs rfl ?_
    have hs:=hs.f7.f7.f7.f7.f7.f7.f7.f7
    exact ⟨[(2,_),(3,_),(4,_),(6,_),(7,_),(8,_),(9,_),(10,_),(11,_),(12,_),(13,_),(14,_),(15,_),(16,_),(17,_),(60,_)],⟨rfl,rfl,rfl,rfl,rfl,rfl,rfl,rfl,rfl,rfl,rfl,rfl,rfl,rfl,rfl,rfl,trivial⟩,⟨(-1,-1),_,hlgJif79,(preN_p oM).symm,rfl,hs.wk [_,_,_,_,_,_,_,_]⟩⟩
   clear hs
   intro D M L w hL hI
   obtain ⟨to,G2,hlgJif79,hto,hE,hs⟩:=hI
   cases hE
   refine Oh _ hL ?_
   have hTc:=hTc_Jif79.mono hlgJif79
   have hTm:=hTm_Jif79.mono hlgJif79
   have hTf:=hTf_Jif79.mono hlgJif79
   have hTe:=hTe_Jif79.mono hlgJif79
   have hC:=hC_Jif79.mono hlgJif79
   have hN:=hN_Jif79.mono hlgJif79
   have hA:=hA_Jif79.mono hlgJif79
   have hT:=hT_Jif79.mono hlgJif79
   have hB2:=hB2_Jif79.mono hlgJif79
   have hB3:=hB3_Jif79.mono hlgJif79
   have hB6:=hB6_Jif79.mono hlgJif79
   have hB7:=hB7_Jif79.mono hlgJif79
   have hB8:=hB8_Jif79.mono hlgJif79
   have hlg0:=hlg0_Jif79.mono hlgJif79
   have hlg1:=hlg1_Jif79.mono hlgJif79
   refine Wt 4 [0] hs rfl<|Zy hs (Fp (a:=to) 2 rfl underlying98 oB zeroValue3 hnd rfl rfl (fun hno=>?_) (fun hyes=>?_))
   ·
    refine Wp 16 [18,2,3,4,6,7,8,9,10,11,12,13,14,15,16,17,19,20,60,0] hs rfl<|Zy hs (Dl 3 rfl underlying99 rfl hs<|Wp 7 [0,0] hs rfl<|O_n (Ks (a:=to) hs.f2 underlying98 oB hnd hno rfl rfl rfl fun _ hs =>Wp 4 [17,2,3,4,6,7,8,9,10,11,12,13,14,15,16,17,19,60,1] hs rfl<|O_s (Bw hs underlying99 sizeOf97 zeroValue97 rfl rfl dC dC rfl (cs:=[_,_]) rfl rfl fun v12 _ hs _=>?_)))
    obtain ⟨_,hG116,hl116,hs⟩:=hs.fixRow noM
    refine O_s (Au hs.f3 underlying99 TI97 rfl dC rfl rfl (hl116) (gI) oM oM fun v13 _ hs =>Wp 5 [0] hs rfl<|Zy hs (Bp (k) underlying80 sizeOf3 rfl rfl rfl oM<|O_n (Gc hs.f3 sizeOf3 rfl rfl rfl Z21 (cs':=(List.map Bx ((r++[l2.length])++List.replicate (256 - (k+1)) 0))) Z38 fun _ hs =>Wp 1 [14,2,3,4,6,7,8,9,10,11,12,13,14,15,60] hs rfl ?_)))
    refine Zr<|Zy hs (Ya (s:=((k+1:Nat):Int)) rfl<|Wp 1 [] hs rfl ?_)
    have hs:=hs.f7.f7.f7.f7.f5.f6.f6
    replace hlg1:=hlg1.mono hG116
    refine Zx [2,3,4,6,7,8,9,10,11,12,13,14,15,60] rfl ⟨k+1,l2++[to],r++[l2.length],v13,_,hlg1,by omega,by rw [Ib,← hfo,← hto,Tl hno],rfl,rfl,Bh (hs.wk [_,_,_,_,_,_,_]) (by simp [bL])⟩
   refine Wp 17 [18,2,3,4,6,7,8,9,10,11,12,13,14,15,16,17,19,20,60,0] hs rfl<|Zy hs (Bp (k) underlying80 sizeOf3 rfl rfl rfl oM<|O_n (Gc hs.f1 sizeOf3 rfl rfl rfl Z21 (cs':=(List.map Bx ((r++[(Bc to l2)])++List.replicate (256 - (k+1)) 0))) Z38 fun _ hs =>Wp 1 [0] hs rfl ?_))
   refine Zr<|Zy hs (Ya (s:=((k+1:Nat):Int)) rfl<|Wp 1 [] hs rfl ?_)
   have hs:=hs.f7.f7.f7.f7.f7.f7.f6
   refine Zx [2,3,4,6,7,8,9,10,11,12,13,14,15,60] rfl ⟨k+1,l2,r++[Bc to l2],vpr2,_,hlg1,by omega,by rw [Ib,← hfo,← hto,Tk hyes],rfl,rfl,(hs.wk [_,_,_,_,_,_,_])⟩
  refine Wp 4 [0] hs rfl ?_
  obtain rfl:k=256:=by omega
  rw [Aaw,AbH,AaX] at hs
  rw [← hfo] at hgo
  refine Wu 1 [] hs rfl<|Bg [1,2,3,4,5,6] hs kR ?_
  replace hs:=hs.drew
  refine Qm 0 rfl kR rfl (Ok rfl<|Xr [1] [] hs rfl<|Xt 2 hs rfl (Ci rfl<|Xr [3,4] [0,3] hs rfl<|Xt 5 hs rfl (Yk 0 rfl (by rw [AaC];exact hrl) ?_)))
  have hle:=hs.le
  refine Xo 6 rfl (wP hs underlying101 sizeOf80 zeroValue80 kR kR kR rfl (es:=[List.map Bx r]) rfl (by simp [hrl]) fun v14 _ hs _=>?_)
  obtain ⟨_,hG128,hl128,hs⟩:=hs.fixRow noM
  replace hTf:=hTf.mono hG128
  replace hTe:=hTe.mono hG128
  replace hC:=hC.mono hG128
  replace hN:=hN.mono hG128
  replace hA:=hA.mono hG128
  replace hB2:=hB2.mono hG128
  replace hB3:=hB3.mono hG128
  replace hB7:=hB7.mono hG128
  replace hlg0:=hlg0.mono hG128
  refine Ai hs hle hG128 (lSr _)<|Xa 7 rfl (Au hs.f4 underlying101 TI80 rfl dC rfl rfl (hl128) (one_rw) oM oM fun v15 _ hs =>Xa 8 rfl (S_y hs rfl (Ci rfl<|Xa 9 rfl (S_y hs rfl (Yf 0 rfl<|Xn 10 rfl (Sd hs.f4 rfl (hs.f4.rowOne 1 rfl) fun _ hs=>Xe (Zk [2,3,4,6,7,8,9,10,11,12,13,14] rfl<|Bg [1,2,3,4,5,6,7,8,9,10,11,12,13,14,15,16,17,18,19,20,21,22,23,24,25,26,27,28] hs kR ?_)))))))
  replace hs:=hs.drew
  refine Qm 0 rfl kR rfl (Ok rfl<|Xr [1] [] hs rfl<|Xt 2 hs rfl (Ci rfl<|Xr [3,4,5] [1,0] hs rfl<|Xt 6 hs rfl (Qn rfl rfl rfl (fun h138=>?_) (fun h138=>?_))))
  ·
   dsimp only [Jg] at h138
   obtain ⟨pn,qn,hpn,hqn,hpl,hql⟩:=pre_pq (hlok2 _ hpqm) h138
   obtain ⟨ff,hff⟩:∃ q9,t.final[pn]'oM=q9:=⟨_,rfl⟩
   obtain ⟨ee,hee⟩:∃ q9,t.ends[pn]'oM=q9:=⟨_,rfl⟩
   have hen:=(htok.en pn oM).1
   rw [Cn7.gD (show pn<t.ends.length by omega),hee] at hen
   obtain ⟨az,haz⟩:∃ z,z=Cn7.aft (Av d) qn ee:=⟨_,rfl⟩
   have hazl:az<d.acc.length:=by rw [haz];have:=Cn7.aft_lt (Cn7.tab_ok hk) ee (q:=qn) (by show qn<d.next.length;omega);exact Nat.lt_of_lt_of_eq this hk.al.symm
   refine Xr [7,8] [2] hs rfl<|Xt 9 hs rfl (Yg rfl (hB2 2 _ rfl)<|Xr [10] [] hs rfl<|Xt 11 hs rfl (Ee pn underlying30 sizeOf4 hTf rfl rfl hpn (Dm oM) fun p143 hp143=>?_))
   rw [hff] at hp143
   refine Xt 12 hs rfl (Yg rfl (hp143) ?_)
   cases ff
   ·
    refine Xr [13,14,15,16,17,18,19,20,21,22,23,24,25,26,27] [] hs rfl ?_
    have hle:=hs.le
    refine Xo 28 rfl (Bw hs underlying30 sizeOf4 zeroValue4 rfl rfl dC dC rfl (cs:=[_]) rfl rfl fun v16 _ hs _=>?_)
    obtain ⟨_,hG160,hl160,hs⟩:=hs.fixRow noM
    replace hlg0:=hlg0.mono hG160
    refine Ai hs hle hG160 (lSr _)<|Xa 29 rfl (Au hs.f5 underlying30 Pw rfl dC rfl rfl (hl160) (Cp rfl) Z36 Z36 fun v17 _ hs =>Xa 30 rfl (S_y hs rfl (Ci rfl<|Xa 31 rfl (S_y hs rfl (Yf 1 rfl<|Xn 32 rfl (Sd hs.f1 rfl (hs.f1.rowOne 1 rfl) fun _ hs=>Xe (Zk [2,3,4,6,7,8,9,10,11,12] rfl<|Wu 2 [] hs rfl<|Zy hs (Ya (s:=((i+1:Nat):Int)) rfl<|Wp 1 [] hs rfl ?_))))))))
    have hs:=hs.f6.f2.f3.f3.f6.f6
    have htk1:=Pe hil hl2 hse
    have hpa:Jz t (Av d) (p,q)=_:=preA_f hpn (by rw [Cn7.gD (show pn<t.final.length by omega),hff])
    refine Zx [2,3,4,6,7,8,9,10,11,12] rfl ⟨f1,i+1,l2,rows++[r],vpr2,v15,v17,_,hlg0,hgo,hnd,hlok2,by omega,by rw [AaB,hrl9];rfl,fun r9 h9=>Z12,rfl,rfl,Bh (hs.wk [_,_,_,_,_,_]) Z16⟩
   refine Xr [13,14,15] [2] hs rfl<|Xt 16 hs rfl (Yg rfl (hB3 2 _ rfl)<|Xt 17 hs rfl (Db (vs:=[.slice Ac d.cls.length cc,.slice An d.next.length cn,.slice Aa d.acc.length ca]) isAgg37 sizeOf37 rfl hB3.whole rfl<|Xr [18,19] [3] hs rfl<|Xt 20 hs rfl (Yg rfl (hB2 3 _ rfl)<|Xr [21] [] hs rfl<|Xt 22 hs rfl (Qp hTe pn underlying31 sizeOf22 rfl rfl hpn oM fun p154 u154 hp154 hu154=>?_))))
   obtain ⟨A154,c154,rfl,_⟩:=id hu154
   rw [hee] at hu154 hp154
   refine Xt 23 hs rfl (Yg rfl (hp154) ?_)
   have hle:=hs.le
   refine Xo 24 rfl (Sp (kW hqn ⟨_,_,_,rfl,hC,hN,hA⟩ hk hB7 hql hu154 oM) hs rfl fun v18 G' _ hR hG156 hs=>?_)
   obtain rfl:=hR
   rw [← haz]
   replace hA:=hA.mono hG156
   replace hlg0:=hlg0.mono hG156
   refine Ai hs hle hG156 (lSr _)<|Xt 25 hs rfl (Ee az underlying30 sizeOf4 hA rfl rfl rfl (Dm oM) fun p157 hp157 =>Xt 26 hs rfl (Yg rfl (hp157)<|Xr [27] [] hs rfl ?_))
   have hle:=hs.le
   refine Xo 28 rfl (Bw hs underlying30 sizeOf4 zeroValue4 rfl rfl dC dC rfl (cs:=[_]) rfl rfl fun v19 _ hs _=>?_)
   obtain ⟨_,hG160,hl160,hs⟩:=hs.fixRow noM
   replace hlg0:=hlg0.mono hG160
   refine Ai hs hle hG160 (lSr _)<|Xa 29 rfl (Au hs.f5 underlying30 Pw rfl dC rfl rfl (hl160) (Cp rfl) Z36 Z36 fun v20 _ hs =>Xa 30 rfl (S_y hs rfl (Ci rfl<|Xa 31 rfl (S_y hs rfl (Yf 1 rfl<|Xn 32 rfl (Sd hs.f1 rfl (hs.f1.rowOne 1 rfl) fun _ hs=>Xe (Zk [2,3,4,6,7,8,9,10,11,12] rfl<|Wu 2 [] hs rfl<|Zy hs (Ya (s:=((i+1:Nat):Int)) rfl<|Wp 1 [] hs rfl ?_))))))))
   have hs:=hs.f6.f2.f3.f3.f6.f6
   have htk1:=Pe hil hl2 hse
   have hpa:Jz t (Av d) (p,q)=_:=((preA_t hpn hqn (by rw [Cn7.gD (show pn<t.final.length by omega),hff])).trans (by rw [Cn7.gD (show pn<t.ends.length by omega),hee,← haz];rfl)).trans (show d.acc.getD az false=d.acc[az]'hazl from Cn7.gD hazl)
   refine Zx [2,3,4,6,7,8,9,10,11,12] rfl ⟨f1,i+1,l2,rows++[r],vpr2,v15,v20,_,hlg0,hgo,hnd,hlok2,by omega,by rw [AaB,hrl9];rfl,fun r9 h9=>Z12,rfl,rfl,Bh (hs.wk [_,_,_,_,_,_]) Z16⟩
  dsimp only [Jg] at h138
  refine Xr [7,8,9,10,11,12,13,14,15,16,17,18,19,20,21,22,23,24,25,26,27] [] hs rfl ?_
  have hle:=hs.le
  refine Xo 28 rfl (Bw hs underlying30 sizeOf4 zeroValue4 rfl rfl dC dC rfl (cs:=[_]) rfl rfl fun v21 _ hs _=>?_)
  obtain ⟨_,hG160,hl160,hs⟩:=hs.fixRow noM
  replace hlg0:=hlg0.mono hG160
  refine Ai hs hle hG160 (lSr _)<|Xa 29 rfl (Au hs.f5 underlying30 Pw rfl dC rfl rfl (hl160) (Cp rfl) Z36 Z36 fun v22 _ hs =>Xa 30 rfl (S_y hs rfl (Ci rfl<|Xa 31 rfl (S_y hs rfl (Yf 1 rfl<|Xn 32 rfl (Sd hs.f1 rfl (hs.f1.rowOne 1 rfl) fun _ hs=>Xe (Zk [2,3,4,6,7,8,9,10,11,12] rfl<|Wu 2 [] hs rfl<|Zy hs (Ya (s:=((i+1:Nat):Int)) rfl<|Wp 1 [] hs rfl ?_))))))))
  have hs:=hs.f6.f2.f3.f3.f6.f6
  have htk1:=Pe hil hl2 hse
  have hpa:Jz t (Av d) (p,q)=_:=preA_p oM
  refine Zx [2,3,4,6,7,8,9,10,11,12] rfl ⟨f1,i+1,l2,rows++[r],vpr2,v15,v22,_,hlg0,hgo,hnd,hlok2,by omega,by rw [AaB,hrl9];rfl,fun r9 h9=>Z12,rfl,rfl,Bh (hs.wk [_,_,_,_,_,_]) Z16⟩
 refine Wp 3 [0] hs rfl ?_
 obtain ⟨f1,rfl⟩:∃ g,m=g+1:=⟨m-1,by have:=rX hex;omega⟩
 have hfe:=exA_end oM hex
 obtain ⟨rfl,rfl⟩:=Prod.mk.inj hfe
 rw [Aab oM] at hs
 have hs:=hs.f3
 obtain ⟨_,hG_hfn,hfn,hs⟩:=hs.fixRow noM
 have hs:=hs.f3
 obtain ⟨_,hG_hfa,hfa,hs⟩:=hs.fixRow noM
 have hs:=hs.f2
 obtain ⟨_,hGbhB43,hB43,hs⟩:=hs.fixBlk (fun k _=>Gb k)
 replace hB43:Cg _ b43 _:=hB43
 replace hfn:=hfn.mono (hG_hfa.trans hGbhB43)
 have hra:=ra_of hfn hr256
 replace hfa:=hfa.mono hGbhB43
 have hba:Dt _ va (L.map (Jz t (Av d))):=hfa
 refine Wu 3 [] hs rfl ?_
 replace hT:=hT.mono (hG_hfn.trans (hG_hfa.trans hGbhB43))
 refine O_s (Sp (zY ⟨_,_,hB43,hra,hba⟩ hAO hsz hT) hs rfl fun v23 G' _ hR hG165 hs=>?_)
 obtain ⟨R,hmR,hde165⟩:=hR
 obtain ⟨vd165,hre165,ea165,en165,ec165,fa165,fn165,fc165,ga165,gn165,gc165,hve165⟩:=hde165.tup
 subst hve165
 subst hre165
 refine Wp 2 [] hs rfl<|O_n (Sg hs.f2 rfl (rfl) fun _ hs=>Wp 2 [0] hs rfl<|As ?_)
 have hr:=hs
 refine By (vs:=[_,_]) results19 rfl ⟨Bq 0 hr isAgg37 sizeOf37 rfl (cs:=[_,_,_]) rfl rfl,rfl,trivial⟩ ?_
 try dsimp only [tup]
 have htk9:=hmR
 exact hs.q ⟨R,hmR,hde165⟩
end Go.Proofs.YtmohebpaonkaeaaGreatDoor
namespace Go.Ex
open Go.Proofs Go.Shelf Go.RowKit Go.Sort
variable {P:Program} {ρ:Ren} {α:Type} [Inhabited α] {enc:α→List Value} {k:Nat}
theorem oD {W w':World} {G':Ah} (h:St ⟨W,whole W,Bj []⟩ G' [] w'):∃ q os',w'=grow (W.drewN q) os':=by
 refine ⟨w'.drawn-W.drawn,w'.heap.extract W.heap.size w'.heap.size,?_⟩
 have h1:=h.os;have h2:=h.tape;have h3:=h.output;have h4:=h.drn
 have hh:W.heap++w'.heap.extract W.heap.size w'.heap.size=w'.heap:=by
  apply Array.ext_getElem?
  intro j
  rw [Array.getElem?_append]
  split
  ·exact (h.old j ‹_› (by rintro ⟨r,hr,_⟩;cases hr)).symm
  ·rw [Array.getElem?_extract]
   split
   ·rw [show W.heap.size+(j-W.heap.size)=j from by omega]
   ·rw [AcL Bm]
 cases w';cases W
 dsimp only at h1 h2 h3 h4 hh
 unfold grow World.drewN
 dsimp only
 rw [hh,h1,h2,h3,show ∀ a b:Nat,a≤b→a+(b-a)=b from fun a b h=>by omega]
 exact h4
theorem rY (hk:∀ x,(enc x).length=k):∀ (l:List α) (t:Nat),t<l.length*k→(l.flatMap enc)[t]?=some ((enc l[t / k]!)[t % k]!)
 | [],t,h=>by simp at h
 | a::l,t,h=>by
  have hk0:0<k:=Nat.pos_of_ne_zero (by rintro rfl;simp at h)
  rw [Aan,List.getElem?_append,hk a]
  split
  ·rw [AbS ‹_›,AaT ‹_›,AaA (by rw [hk];assumption)]
   simp [*]
  ·have h1:k≤t:=by omega
   rw [rY hk l (t-k) (by rw [AaZ,AcK] at h;omega),Nat.div_eq_sub_div hk0 h1,Nat.mod_eq_sub_mod h1]
   simp
theorem Rj (hk:∀ x,(enc x).length=k) (l:List α):(flatK enc k l.toArray).toList=l.flatMap enc:=by
 have hlen:(l.flatMap enc).length=l.length*k:=by
  induction l with
  | nil=>simp
  | cons a l ih=>rw [Aan,AaB,ih,hk,AaZ,AcK,Nat.add_comm]
 apply List.ext_getElem?
 intro t
 by_cases ht:t<l.length*k
 ·rw [rY hk l t ht,Array.getElem?_toList,Array.getElem?_eq_getElem (by simpa using ht),← getElem!_pos (flatK enc k l.toArray) t (by simpa using ht),get_flatK _ _ _ _ (by simpa using ht)]
  simp
 ·rw [AaL tE,AaL Bm]
theorem cY (cur F:Array Value) (h:F.size≤cur.size):(putCells id 0 F cur).toList.take F.size=F.toList:=by
 apply List.ext_getElem?
 intro j
 by_cases hj:j<F.size
 ·rw [AbJ hj,Array.getElem?_toList]
  simp [putCells,hj,show j<cur.size by omega]
 ·rw [List.getElem?_take_eq_none Bm,AaL tE]
theorem uY (L:SlLaysF0.n6 P ρ) {g:Nat} {e:TypeId} (aE:∀ w,(isAgg (ρ.t 24)).run P w=.ok true w) (zE:∀ w,(Go.sizeOf (ρ.t 24)).run P w=.ok k w) (hk:∀ x,(enc x).length=k) (h1:∀ x,∀ v∈enc x,v.oneCell'=true) {cf:α→α→Int} (hO:SWO (ltOf cf))
  (eg:∀ args w,(callFunc g args).run P w=.ok (.enter g args) w) {G:Ah} (hc:∀ (G':Ah) x y,G.le G'→Ba P g [.agg (enc x).toArray,.agg (enc y).toArray] G' [] fun r _ H'=>r=.int .i64 (cf x y)∧H'=[])
  {b cap n:Nat} {l:List α} (hn:n=l.length) (hl:l.length<4611686018427387904) :
  Ba P (ρ.f 6) [.slice (some ⟨b,0,none⟩) n cap,.func (.func g) #[] #[]] G [.row e k (.slice (some ⟨b,0,none⟩) n cap) n (l.flatMap enc)]
   fun _ _ H'=>∃ l':List α,l'.Perm l∧l'.Pairwise (fun a b=>ltOf cf b a=false)∧H'=[.row e k (.slice (some ⟨b,0,none⟩) n cap) n (l'.flatMap enc)]:=by
 subst hn
 intro w hw
 have hrow:w.ownsRow 0 e k (.slice (some ⟨b,0,none⟩) l.length cap) l.length (l.flatMap enc):=hw.hold (.row e k _ l.length (l.flatMap enc)) Di
 rcases hrow.2 with ⟨h0,_⟩ | ⟨b',cap',cur,hv,h0,hh,hnc,hcm,hsz,htk⟩
 ·cases h0
 cases hv
 have hb:b<w.heap.size:=Dc hh
 have hH:HoldsK enc k w b 0 l.toArray:=by
  intro j hj
  have hj':j<l.length*k:=by simpa using hj
  refine ⟨?_,by simp [World.frozen?,hh]⟩
  have h2:(cur.toList.take (l.length*k))[j]?=(l.flatMap enc)[j]?:=by rw [htk]
  rw [AbJ hj',Array.getElem?_toList] at h2
  simp only [World.cell?,hh,Abr,Option.isSome_none,AbK,if_false]
  rw [h2,← Rj hk,Array.getElem?_toList,Array.getElem?_eq_getElem hj,getElem!_pos _ j hj]
  rfl
 have hbG:G b=none:=(hw.off (.row e k (.slice (some ⟨b,0,none⟩) l.length cap) l.length (l.flatMap enc)) Di b rfl).1
 have hcmp:CmpLays P g #[] enc k cf b 0 l.toArray.size w:=fun m os dk _ x y =>
  (hc _ x y (fun j o hj=>by
   have hj1:=hw.ghost j o hj
   have hjb:b≠j:=fun e2=>by subst e2;rw [hbG] at hj;cases hj
   have hjl:=Dc hj1
   show (sortWorldK enc k w b 0 m dk os).heap[j]?=_
   unfold sortWorldK
   rw [heap_grow_old _ _ (by simpa [putRowK,putRow,mapBlock,Sort.ahead] using hjl)]
   simp [putRowK,putRow,mapBlock,Sort.ahead,Abx,hjb,hj1]) _ (St.whole _)).mono fun e' w' ⟨v,G',H',he,hs,hr,hH'⟩=>by
   subst hr hH'
   exact ⟨he,oD hs⟩
 refine (AnyQ.slices_SortFunc L k aE zE enc hk h1 cf hO g #[] b 0 cap l.toArray w eg hcmp hH hb (by simpa using hl)).mono fun e' w' ⟨he,d',m,os,hp,hso,hw'⟩=>?_
 obtain ⟨l',rfl⟩:∃ l':List α,d'=l'.toArray:=⟨d'.toList,rfl⟩
 have hlen:l'.length=l.length:=by simpa using hp.1
 have hperm:l'.Perm l:=by
  have:=hp.2.2
  simpa [hlen,Aab] using this
 refine ⟨_,G,[.row e k (.slice (some ⟨b,0,none⟩) l.length cap) l.length (l'.flatMap enc)],he,?_,l',hperm,?_,rfl⟩
 ·subst hw'
  refine St.write hw rfl rfl rfl (by simp [sortWorldK,putRowK,putRow,mapBlock,Sort.ahead,grow]) (fun j hj hf=>?_) ?_ (fun j hj=>.inl hj) (by simp [sortWorldK,putRowK,putRow,mapBlock,Sort.ahead,grow])
  ·unfold sortWorldK
   rw [heap_grow_old _ _ (by simpa [putRowK,putRow,mapBlock,Sort.ahead] using hj)]
   have:b≠j:=fun e2=>hf (by subst e2;rfl)
   simp [putRowK,putRow,mapBlock,Sort.ahead,Abx,this]
  ·have hF:(flatK enc k l'.toArray).size=l.length*k:=by simp [hlen]
   have hcs:l.length*k≤cur.size:=by rw [hsz];exact AbL _ hnc
   refine ⟨?_,.inr ⟨b,cap,putCells id 0 (flatK enc k l'.toArray) cur,rfl,h0,?_,hnc,hcm,by simp [putCells,hsz],?_⟩⟩
   ·rw [← Rj hk,Abe,hF]
   ·unfold sortWorldK
    rw [heap_grow_old _ _ (by simpa [putRowK,putRow,mapBlock,Sort.ahead] using hb)]
    simp [putRowK,putRow,mapBlock,Sort.ahead,Abx,hh,onCells]
   ·have:=cY cur (flatK enc k l'.toArray) (by rw [hF];exact hcs)
    rw [hF] at this
    rw [this,Rj hk]
 ·rw [AcR]
  intro i j hi hj hij
  have:=hso i j (Aas _) hij (by simpa [← hlen] using hj)
  simpa [hi,hj] using this
end Go.Ex
namespace Go.Proofs.YtmohebpaonkaeaaGreatDoor
open Go Go.Ex Go.RowKit Go.Proofs.Tryz
variable {G:Ah} {x:Cx} {W:World→Prop} {E:Env} {K:Value→Prop} {d:Option Tmp} {ty:TypeId} {pos:String} {aft:Array Edge} {g:Option (Nat×Bool)} {o p:Operand} {xt yt:TypeId}
theorem bM {a b c d:Nat}:∀ y∈[Bb a,Bb b,Bb c,Bb d],y.oneCell'=true:=by
  intro y hy
  simp only [AaV,AbI,or_false] at hy
  rcases hy with rfl | rfl | rfl | rfl<;>rfl
theorem full_wf:(Jw [0,0,0,0]).length=4∧∀ w∈Jw [0,0,0,0],w<W64:=by decide
theorem Hj {α:Type} {l:List α} {k:Nat} (h:k<l.length):l.take (k+1)=l.take k++[l[k]]:=by rw [Aay,AaA h];rfl
theorem uZ {l z:List (List Nat)} {k:Nat} (h:k<l.length):(l.take (k+1)).foldl Uq z=Uq ((l.take k).foldl Uq z) l[k]:=by rw [Hj h,Aap];rfl
theorem oE {cs:List (List Nat)} {c:List Nat} {j:Nat} (h:j<cs.length):(cs.take (j+1)).flatMap (fun e=>Fi e c)=(cs.take j).flatMap (fun e=>Fi e c)++Fi cs[j] c:=by rw [Hj h,Abl];simp
theorem parts_le {cs:List (List Nat)} {c:List Nat} (hp:Cn7.Pt cs) (hc:Cj c) (j:Nat):((cs.take j).flatMap (fun e=>Fi e c)).length≤256:=by
  refine Aai ?_ (Cn7.pt_cut hp hc).len
  have:(cs.take j).flatMap (fun e=>Fi e c)++(cs.drop j).flatMap (fun e=>Fi e c)=Uq cs c:=by rw [← Abl,List.take_append_drop];rfl
  rw [← this,AaB];omega
theorem parts_tt {e c p q:List Nat} (hp:Ef e c=p) (hq:Ka e c=q) (h1:¬ p=[0,0,0,0]) (h2:¬ q=[0,0,0,0]):Fi e c=[p,q]:=by
  subst hp;unfold Fi;rw [show Ow e c=q from hq];simp [h1,h2]
theorem parts_tf {e c p q:List Nat} (hp:Ef e c=p) (hq:Ka e c=q) (h1:¬ p=[0,0,0,0]) (h2:q=[0,0,0,0]):Fi e c=[p]:=by
  subst hp;unfold Fi;rw [show Ow e c=q from hq];simp [h1,h2]
theorem parts_ft {e c p q:List Nat} (hp:Ef e c=p) (hq:Ka e c=q) (h1:p=[0,0,0,0]) (h2:¬ q=[0,0,0,0]):Fi e c=[q]:=by
  subst hp;unfold Fi;rw [show Ow e c=q from hq];simp [h1,h2]
theorem parts_ff {e c p q:List Nat} (hp:Ef e c=p) (hq:Ka e c=q) (h1:p=[0,0,0,0]) (h2:q=[0,0,0,0]):Fi e c=[]:=by
  subst hp;unfold Fi;rw [show Ow e c=q from hq];simp [h1,h2]
theorem pt_pos {l:List (List Nat)} (h:Cn7.Pt l):0<l.length:=by
  obtain ⟨c,hc,_⟩:=h.cv 0
  exact List.length_pos_iff.2 (List.ne_nil_of_mem hc)
theorem pt_c4 {l:List (List Nat)} (h:Cn7.Pt l):Nn l:=fun c hc=>h.c4 c hc
theorem pt_cuts {l:List (List Nat)} (h:∀ c∈l,Cj c) (k:Nat):Cn7.Pt ((l.take k).foldl Uq [Jw [0,0,0,0]]):=(Cn7.cuts_ok (l.take k) [] _ Cn7.pt_start (fun _ _ c hc=>by cases hc) fun c hc=>h c (List.mem_of_mem_take hc)).1
def gK:Type:={ c:List Nat // Cj c∧∃ y,Bv c y=true }
instance:Inhabited gK:=⟨⟨Jw [0,0,0,0],Cn7.full_ok,0,Cn7.has_full 0⟩⟩
def encN (c:gK):List Value:=c.1.map Bb
def vA (a b:gK):Int:=(Io a.1:Int)-(Io b.1:Int)
theorem ltN {a b:gK}:ltOf vA a b=true↔Io a.1<Io b.1:=by unfold ltOf vA;rw [decide_eq_true_iff];omega
theorem bN {a b:gK}:ltOf vA a b=false↔Io b.1≤Io a.1:=by rw [Abi,ne_eq,ltN];omega
theorem swo_N:Go.Sort.SWO (ltOf vA) :=
  ⟨fun x=>bN.2 (AaR _),fun x y z h1 h2=>ltN.2 (by have h1:=ltN.1 h1;have h2:=ltN.1 h2;omega),fun x y z h1 h2=>bN.2 (by have h1:=bN.1 h1;have h2:=bN.1 h2;omega)⟩
theorem bO {c:List Nat} (h:Cj c) (h2:∃ y,Bv c y=true):∃ x:UInt8,(Br c)[0]?=some x∧Io c=x.toNat:=by
  obtain ⟨y,hy⟩:=h2
  have hm:=(Cn7.mem_bytes h).2 hy
  cases hb:Br c with
  | nil=>rw [hb] at hm;cases hm
  | cons x l=>exact ⟨x,rfl,by unfold Io;rw [hb];rfl⟩
theorem liftN:∀ {l:List (List Nat)},(∀ c∈l,Cj c∧∃ y,Bv c y=true)→∃ L:List gK,L.map (·.1)=l
  | [],_=>⟨[],rfl⟩
  | c::l,h=>by
    obtain ⟨L,hL⟩:=liftN (l:=l) fun d hd=>h d (AaG _ hd)
    exact ⟨(⟨c,h c AaK⟩:gK)::L,congrArg (c::·) hL⟩
theorem eM (l:List gK):l.flatMap encN=Dq (l.map (·.1)):=by
  unfold Dq encN;rw [List.flatMap_def,AbV];rfl
theorem minus_wf {a b:List Nat} (ha:a.length=4) (hb:b.length=4):(Ka a b).length=4∧∀ w∈Ka a b,w<W64:=by
  refine ⟨Rg ha hb,fun w hw=>?_⟩
  obtain ⟨a0,a1,a2,a3,rfl⟩:=Ei ha
  obtain ⟨b0,b1,b2,b3,rfl⟩:=Ei hb
  simp only [Ka,List.zipWith_cons_cons,List.zipWith_nil_left,AaV,AbI,or_false] at hw
  rcases hw with rfl | rfl | rfl | rfl<;>exact Gv _ _
theorem eN (a b:List (List Nat)):Dq (a++b)=Dq a++Dq b:=by unfold Dq;simp
theorem oF (c:List Nat) (l:List (List Nat)):Dq (c::l)=c.map Bb++Dq l:=by unfold Dq;simp
theorem vB:Dq []=[]:=rfl
theorem cmpc_ok {a b:List Nat} {x y:UInt8} (ha:a.length=4) (hb:b.length=4) (hwa:∀ w∈a,w<W64) (hwb:∀ w∈b,w<W64) (hT:Tab G) (hx:(Br a)[0]?=some x) (hy:(Br b)[0]?=some y) :
  Ba prog 128 [Ig a,Ig b] G [] fun r _ H'=>H'=[]∧r=Vi ((x.toNat:Int)-(y.toNat:Int)):=by
 have hx1:=x.toNat_lt
 have hy1:=y.toNat_lt
 refine Ba.of_T [(0,_),(1,_)] func128 rfl ntmps128 sM rfl fun w0 hs=>?_
 have hT0:=hT
 refine Wt 2 [] hs rfl<|O_s (Fj hs rfl (cs:=(List.map Bb a)) rfl fun b2 _ hs =>O_s (Fj hs rfl (cs:=(List.map Bb b)) rfl fun b3 _ hs =>Wp 3 [0] hs rfl<|Bg [0,1,2,3,4,5] hs kR ?_))
 replace hs:=hs.drew
 refine Xt 0 hs rfl (Yk 1 rfl (by rw [AaC,ha])<|Xt 2 hs rfl (Yk 0 rfl (by rw [AaC,hb]) ?_))
 have hle:=hs.le
 refine Xo 1 rfl (Sp (aZ ha hwa hT hx) hs rfl fun v1 G' _ hR hG6 hs=>?_)
 obtain rfl:=hR
 replace hT:=hT.mono hG6
 refine Ai hs hle hG6 (lSr _) ?_
 have hle:=hs.le
 refine Xo 3 rfl (Sp (aZ hb hwb hT hy) hs rfl fun v2 G' _ hR hG8 hs=>?_)
 obtain rfl:=hR
 refine Ai hs hle hG8 (lSr _)<|Xt 4 hs rfl (Ll (c:=(x.toNat:Int)-(y.toNat:Int)) rfl rfl oM oM<|Xr [5] [] hs rfl<|Xe (Zk [4] rfl<|As<|Zz results128 rfl ?_))
 exact hs.q rfl
theorem cmpN_ok (hT:Tab G) (a b:gK):Ba prog 128 [.agg (encN a).toArray,.agg (encN b).toArray] G [] fun r _ H'=>r=Vi (vA a b)∧H'=[]:=by
  obtain ⟨x,hx,ex⟩:=bO a.2.1 a.2.2
  obtain ⟨y,hy,ey⟩:=bO b.2.1 b.2.2
  refine (cmpc_ok a.2.1.1 b.2.1.1 a.2.1.2 b.2.1.2 hT hx hy).mono fun r G' H' _ h=>⟨?_,h.1⟩
  unfold vA;rw [ex,ey];exact h.2
theorem srtc_ok {b cap:Nat} {l:List (List Nat)} (hl:Cn7.Pt l) (hT:Tab G):Ba prog 127 [Vs b l.length cap,.func (.func 128) #[] #[]] G [.row 86 4 (Vs b l.length cap) l.length (Dq l)]
    fun _ _ H'=>H'=[.row 86 4 (Vs b l.length cap) l.length (Dq (jK l))]:=by
  obtain ⟨L,hL⟩:=liftN fun c hc=>⟨hl.c4 c hc,hl.ne c hc⟩
  have hn:L.length=l.length:=by rw [← hL,AaC]
  have h:=uY (P:=prog) (k:=4) (enc:=encN) Tryz.sortC7 (e:=86) isAgg86 sizeOf86 (fun x=>by show (x.1.map Bb).length=4;rw [AaC];exact x.2.1.1) (fun x v hv=>by obtain ⟨a,_,rfl⟩:=Aaf.1 hv;rfl) swo_N (enters_of func128 kR rfl) (G:=G) (fun G' x y hG=>cmpN_ok (hT.mono hG) x y) (b:=b) (cap:=cap) (n:=l.length) (l:=L) hn.symm (by have:=hl.len;omega)
  rw [eM,hL] at h
  refine h.mono fun r G' H' _ ⟨l',h1,h2,h3⟩=>?_
  rw [h3,eM]
  have hp:(l'.map (·.1)).Perm l:=by rw [← hL];exact h1.map _
  have hs:Cn7.LeL (l'.map (·.1)):=List.pairwise_map.2 (h2.imp fun h=>bN.1 h)
  rw [Cn7.sort_unique (hl.perm (Cn7.sort_perm l)) (hp.trans (Cn7.sort_perm l).symm) hs (Cn7.sort_sorted l)]
theorem gL {v:Value} {l:List (List Nat)} (hl:Hl G v l) (hlk:∀ c∈l,Cj c) (hn:l.length≤1000000) (hT:Tab G) :
  Ba prog 69 [v] G [] fun r G' H'=>H'=[]∧Hl G' r (Gg l):=by
 obtain ⟨Ac,cc,rfl⟩:=hl.slice
 obtain ⟨f0,f1,f2,f3,hF⟩:=Ei full_wf.1
 refine Ba.of_T [(0,_)] func69 rfl ntmps69 sM rfl fun w0 hs=>?_
 have hl0:=hl
 have hT0:=hT
 refine Wt 6 [0] hs rfl<|Zy hs (Dr underlying86 sizeOf84 zeroValue86 rfl rfl (cs:=[_,_,_,_]) rfl<|O_s (Sp (yR (c:=[0,0,0,0]) rfl) hs rfl fun v1 G' _ hR hG12 hs=>?_))
 obtain rfl:=hR
 rw [hF]
 refine O_s (Bw hs underlying28 sizeOf86 zeroValue86 rfl rfl dC dC rfl (cs:=[_,_,_,_]) rfl rfl fun v2 _ hs _ =>Wp 9 [0,0] hs rfl ?_)
 have hs:=Bh (H':=[.row 86 4 (v2) [Jw [0,0,0,0]].length (Dq [Jw [0,0,0,0]])]) hs (by rw [hF];rfl)
 obtain ⟨Gp0,hGp⟩:=hs.name
 subst hGp
 replace hl:=hl.mono hG12
 have hl_0:=hl
 replace hT:=hT.mono hG12
 have hT_0:=hT
 refine Zl [3,14,15,16] (fun m E w=>∃ (k:Nat) (cs:List (List Nat)) (v3:Value) (G2:Ah),Cu Gp0 G2∧k≤l.length∧cs=(l.take k).foldl Uq [Jw [0,0,0,0]]∧m=l.length-k∧E=⟨[],[(3,v3),(14,(.slice Ac l.length cc)),(15,Vi ((l.length:Nat):Int)),(16,Vi (k:Int))]⟩∧St ⟨w0,G,Bj []⟩ G2 [.row 86 4 (v3) cs.length (Dq cs)] w) rfl (⟨0,_,_,_,Cu.refl _,by omega,rfl,rfl,rfl,hs⟩) fun m E w hI=>?_
 obtain ⟨k,cs,v3,G2,hlg0,hk9,hcs,rfl,rfl,hs⟩:=hI
 have hl:=hl_0.mono hlg0
 have hT:=hT_0.mono hlg0
 have hpt:Cn7.Pt cs:=by rw [hcs];exact pt_cuts hlk k
 have hcs0:=pt_pos hpt
 have hcsl:=hpt.len
 refine Wt 2 [] hs rfl<|Zy hs (Yc rfl (fun h17=>?_) fun h17=>?_)
 ·
  refine Wp 8 [0] hs rfl<|Zy hs (Ca hl k underlying28 sizeOf86 rfl rfl rfl oM fun p18 c18 hp18 hc18 hR18=>?_)
  obtain ⟨c,hce⟩:∃ q9,l[k]'oM=q9:=⟨_,rfl⟩
  rw [hce] at hR18
  obtain ⟨rfl,_,_⟩:=hR18
  have hc4:=hlk c (by rw [← hce];exact AaD _)
  refine Zy hs (Db (vs:=List.map Bb c) isAgg86 sizeOf86 rfl hp18 hc18<|O_s (Bs hs zeroValue86 (cs:=(List.map Bb [0,0,0,0])) rfl fun b5 _ hs =>O_n (Sw hs rfl (vs:=(List.map Bb c)) Z22 Z22 (Dk _) fun _ hs=>Wp 5 [0,0] hs rfl ?_)))
  obtain ⟨bq,cq,hzbq,_⟩:=hs.rowForm 1 rfl oM
  subst hzbq
  refine Wu 7 [0] hs rfl ?_
  have hs:=hs.nilRow 86 4
  have hs:=hs.f1.f2.f2
  obtain ⟨Gp1,hGp⟩:=hs.name
  subst hGp
  have hl_1:=hl
  have hT_1:=hT
  have hlg0_1:=hlg0
  refine Zl [5,6,14,15,16,20,21,22] (fun m E w=>∃ (j:Nat) (v6:Value) (G2:Ah),Cu Gp1 G2∧j≤cs.length∧m=cs.length-j∧E=⟨[],[(5,Vp b5),(6,v6),(14,(.slice Ac l.length cc)),(15,Vi ((l.length:Nat):Int)),(16,Vi (k:Int)),(20,Vs bq cs.length cq),(21,Vi ((cs.length:Nat):Int)),(22,Vi (j:Int))]⟩∧St ⟨w0,G,Bj []⟩ G2 [.row 86 4 (v6) ((cs.take j).flatMap fun e=>Fi e c).length (Dq ((cs.take j).flatMap fun e=>Fi e c)),.row 86 4 (Vs bq cs.length cq) cs.length (Dq cs),.blk b5 86 (List.map Bb c)] w) rfl (⟨0,_,_,Cu.refl _,by omega,rfl,rfl,hs⟩) fun m E w hI=>?_
  obtain ⟨j,v6,G2,hlg1,hj9,rfl,rfl,hs⟩:=hI
  have hl:=hl_1.mono hlg1
  have hT:=hT_1.mono hlg1
  have hlg0:=hlg0_1.mono hlg1
  refine Wt 2 [] hs rfl<|Zy hs (Yc rfl (fun h23=>?_) fun h23=>?_)
  ·
   refine Wp 8 [0] hs rfl<|Zy hs (Cl j underlying28 sizeOf86 rfl rfl rfl oM ?_)
   obtain ⟨ee,hee⟩:∃ q9,cs[j]'oM=q9:=⟨_,rfl⟩
   have hee4:=hpt.c4 ee (by rw [← hee];exact AaD _)
   obtain ⟨p0,p1,p2,p3,hp⟩:=Ei (Kw hee4.1 hc4.1)
   obtain ⟨q0,q1,q2,q3,hq⟩:=Ei (Rg hee4.1 hc4.1)
   have hwp:=(kH hee4.1 hc4.1).2
   rw [hp] at hwp
   have hwq:=(minus_wf hee4.1 hc4.1).2
   rw [hq] at hwq
   have hxl:=parts_le hpt hc4 j
   refine Zy hs (Ge (vs:=List.map Bb ee) 1 rfl isAgg86 sizeOf86 rfl oM (by rw [Hz (pt_c4 hpt) oM,hee]) (by rw [AaC];exact hee4.1)<|O_s (Bs hs zeroValue86 (cs:=(List.map Bb [0,0,0,0])) rfl fun b8 _ hs =>O_n (Sw hs rfl (vs:=(List.map Bb ee)) Z22 Z22 (Dk _) fun _ hs=>Wp 2 [0] hs rfl<|Bg [0,1,2,3,4,5,6,7] hs kR ?_)))
   replace hs:=hs.drew
   refine Xt 0 hs rfl (Yk 0 rfl (by rw [AaC,hee4.1])<|Xt 1 hs rfl (Yk 3 rfl (by rw [AaC,hc4.1])<|Xt 3 hs rfl (Yk 0 rfl (by rw [AaC,hee4.1])<|Xt 4 hs rfl (Yk 3 rfl (by rw [AaC,hc4.1])<|Xr [7] [] hs rfl ?_))))
   have hle:=hs.le
   refine Xo 2 rfl (Sp (Jl hee4.1 hc4.1) hs rfl fun v3 G' _ hR hG28 hs=>?_)
   obtain rfl:=hR
   rw [hp]
   replace hlg1:=hlg1.mono hG28
   refine Ai hs hle hG28 (lSr _) ?_
   have hle:=hs.le
   refine Xo 5 rfl (Sp (zG hee4.1 hc4.1) hs rfl fun v4 G' _ hR hG31 hs=>?_)
   obtain rfl:=hR
   rw [hq]
   replace hlg1:=hlg1.mono hG31
   refine Ai hs hle hG31 (lSr _)<|Xt 6 hs rfl (Dr underlying200 sizeOf86 zeroValue200 rfl rfl (cs:=[_,_,_,_,_,_,_,_]) rfl<|Xe (Zk [5,6,14,15,16,20,21,22,32,33] rfl<|Kd (fB 3 (L:=[(5,_),(6,_),(14,_),(15,_),(16,_),(20,_),(21,_),(22,_),(32,_),(33,_)]) ⟨rfl,rfl,rfl,rfl,rfl,rfl,rfl,rfl,rfl,rfl,trivial⟩ (Yz<|Wt 11 [0] hs rfl<|Zy hs (Zw (ws:=List.map Bb [p0,p1,p2,p3]) 0 underlying200 isAgg86 sizeOf86 rfl rfl rfl dC rfl<|O_s (Bs hs zeroValue86 (cs:=(List.map Bb [0,0,0,0])) rfl fun b10 _ hs =>O_n (Sw hs rfl (vs:=(List.map Bb [p0,p1,p2,p3])) Z22 Z22 (Dk _) fun _ hs=>Wp 3 [0] hs rfl<|Zy hs (Yk 0 rfl (by rw [AaC,show [p0,p1,p2,p3].length=4 from rfl])<|Zy hs (Dr underlying86 sizeOf84 zeroValue86 rfl rfl (cs:=[_,_,_,_]) rfl<|Zy hs (Nc (a:=[p0,p1,p2,p3]) (b:=[0,0,0,0]) underlying86 sizeOf84 isAgg84 underlying84 rfl rfl rfl rfl rfl hwp dC (fun h38=>?_) (fun h38=>?_)))))))))))
   ·
    refine Wp 4 [0] hs rfl<|Zy hs (Yk 0 rfl (by rw [AaC,show [p0,p1,p2,p3].length=4 from rfl])<|O_s (Bw hs underlying28 sizeOf86 zeroValue86 rfl rfl dC dC rfl (cs:=[_,_,_,_]) rfl rfl fun v5 _ hs _=>?_))
    obtain ⟨_,hG41,hl41,hs⟩:=hs.fixRow noM
    refine O_s (Au hs.f2 underlying28 jY rfl dC rfl rfl (hl41) (bM) oM oM fun v6 _ hs =>Wp 3 [0] hs rfl ?_)
    have h38_0:=h38
    refine Zy hs (Kn (c:=(1)) rfl rfl dC dC<|Wp 1 [] hs rfl<|Cr ⟨[(5,_),(6,_),(14,_),(15,_),(16,_),(20,_),(21,_),(22,_),(32,_),(33,_)],⟨rfl,rfl,rfl,rfl,rfl,rfl,rfl,rfl,rfl,rfl,trivial⟩,Yz ?_⟩)
    refine Wt 11 [0] hs rfl<|Zy hs (Zw (ws:=List.map Bb [q0,q1,q2,q3]) 1 underlying200 isAgg86 sizeOf86 rfl rfl rfl dC rfl<|O_s (Bs hs zeroValue86 (cs:=(List.map Bb [0,0,0,0])) rfl fun b10 _ hs =>O_n (Sw hs rfl (vs:=(List.map Bb [q0,q1,q2,q3])) Z22 Z22 (Dk _) fun _ hs=>Wp 3 [11,5,6,10,14,15,16,20,21,22,32,33] hs rfl<|Zy hs (Yk 0 rfl Z29<|Zy hs (Dr underlying86 sizeOf84 zeroValue86 rfl rfl (cs:=[_,_,_,_]) rfl ?_)))))
    replace hlg1:=hlg1.mono hG41
    refine Zy hs (Nc (a:=[q0,q1,q2,q3]) (b:=[0,0,0,0]) underlying86 sizeOf84 isAgg84 underlying84 rfl rfl rfl rfl rfl hwq dC (fun h38=>?_) (fun h38=>?_))
    ·
     refine Wp 4 [0] hs rfl<|Zy hs (Yk 0 rfl Z29<|O_s (Bw hs underlying28 sizeOf86 zeroValue86 rfl rfl dC dC rfl (cs:=[_,_,_,_]) rfl rfl fun v7 _ hs _=>?_))
     obtain ⟨_,hG41,hl41,hs⟩:=hs.fixRow noM
     refine O_s (Au hs.f1 underlying28 jY rfl dC rfl rfl (hl41) (bM) oM oM fun v8 _ hs =>Wp 3 [0] hs rfl ?_)
     have h38_1:=h38
     refine Zy hs (Kn (c:=(2)) rfl rfl dC dC<|Wp 1 [] hs rfl<|Cr ⟨[(5,_),(6,_),(14,_),(15,_),(16,_),(20,_),(21,_),(22,_),(32,_),(33,_)],⟨rfl,rfl,rfl,rfl,rfl,rfl,rfl,rfl,rfl,rfl,trivial⟩,Yz ?_⟩)
     refine Wt 7 [0] hs rfl ?_
     refine Zr<|Zy hs (Ya (s:=((j+1:Nat):Int)) rfl<|Wp 1 [] hs rfl ?_)
     have hs:=hs.f5.f5.f2
     have hpe:=parts_tt hp hq h38_0 h38_1
     replace hlg1:=hlg1.mono hG41
     refine Zx [5,6,14,15,16,20,21,22] rfl ⟨j+1,v8,_,hlg1,by omega,rfl,rfl,Bh (hs.wk [_,_,_]) Z23⟩
    refine Wp 4 [0] hs rfl ?_
    have h38_1:=h38
    refine Zy hs (Kn (c:=(2)) rfl rfl dC dC<|Wp 1 [] hs rfl<|Cr ⟨[(5,_),(6,_),(14,_),(15,_),(16,_),(20,_),(21,_),(22,_),(32,_),(33,_)],⟨rfl,rfl,rfl,rfl,rfl,rfl,rfl,rfl,rfl,rfl,trivial⟩,Yz ?_⟩)
    refine Wt 7 [0] hs rfl ?_
    refine Zr<|Zy hs (Ya (s:=((j+1:Nat):Int)) rfl<|Wp 1 [] hs rfl ?_)
    have hs:=hs.f5.f5.f3
    have hpe:=parts_tf hp hq h38_0 h38_1
    refine Zx [5,6,14,15,16,20,21,22] rfl ⟨j+1,v6,_,hlg1,by omega,rfl,rfl,Bh (hs.wk [_,_,_]) Z23⟩
   refine Wp 4 [0] hs rfl ?_
   have h38_0:=h38
   refine Zy hs (Kn (c:=(1)) rfl rfl dC dC<|Wp 1 [] hs rfl<|Cr ⟨[(5,_),(6,_),(14,_),(15,_),(16,_),(20,_),(21,_),(22,_),(32,_),(33,_)],⟨rfl,rfl,rfl,rfl,rfl,rfl,rfl,rfl,rfl,rfl,trivial⟩,Yz ?_⟩)
   refine Wt 11 [0] hs rfl<|Zy hs (Zw (ws:=List.map Bb [q0,q1,q2,q3]) 1 underlying200 isAgg86 sizeOf86 rfl rfl rfl dC rfl<|O_s (Bs hs zeroValue86 (cs:=(List.map Bb [0,0,0,0])) rfl fun b10 _ hs =>O_n (Sw hs rfl (vs:=(List.map Bb [q0,q1,q2,q3])) Z22 Z22 (Dk _) fun _ hs=>Wp 3 [0] hs rfl<|Zy hs (Yk 0 rfl Z29<|Zy hs (Dr underlying86 sizeOf84 zeroValue86 rfl rfl (cs:=[_,_,_,_]) rfl<|Zy hs (Nc (a:=[q0,q1,q2,q3]) (b:=[0,0,0,0]) underlying86 sizeOf84 isAgg84 underlying84 rfl rfl rfl rfl rfl hwq dC (fun h38=>?_) (fun h38=>?_)))))))
   ·
    refine Wp 4 [0] hs rfl<|Zy hs (Yk 0 rfl Z29<|O_s (Bw hs underlying28 sizeOf86 zeroValue86 rfl rfl dC dC rfl (cs:=[_,_,_,_]) rfl rfl fun v9 _ hs _=>?_))
    obtain ⟨_,hG41,hl41,hs⟩:=hs.fixRow noM
    refine O_s (Au hs.f3 underlying28 jY rfl dC rfl rfl (hl41) (bM) oM oM fun v10 _ hs =>Wp 3 [10,5,6,14,15,16,20,21,22,32,33] hs rfl ?_)
    have h38_1:=h38
    refine Zy hs (Kn (c:=(2)) rfl rfl dC dC<|Wp 1 [] hs rfl<|Cr ⟨[(5,_),(6,_),(14,_),(15,_),(16,_),(20,_),(21,_),(22,_),(32,_),(33,_)],⟨rfl,rfl,rfl,rfl,rfl,rfl,rfl,rfl,rfl,rfl,trivial⟩,Yz ?_⟩)
    refine Wt 7 [0] hs rfl ?_
    refine Zr<|Zy hs (Ya (s:=((j+1:Nat):Int)) rfl<|Wp 1 [] hs rfl ?_)
    have hs:=hs.f5.f5.f2
    have hpe:=parts_ft hp hq h38_0 h38_1
    replace hlg1:=hlg1.mono hG41
    refine Zx [5,6,14,15,16,20,21,22] rfl ⟨j+1,v10,_,hlg1,by omega,rfl,rfl,Bh (hs.wk [_,_,_]) Z23⟩
   refine Wp 4 [0] hs rfl ?_
   have h38_1:=h38
   refine Zy hs (Kn (c:=(2)) rfl rfl dC dC<|Wp 1 [] hs rfl<|Cr ⟨[(5,_),(6,_),(14,_),(15,_),(16,_),(20,_),(21,_),(22,_),(32,_),(33,_)],⟨rfl,rfl,rfl,rfl,rfl,rfl,rfl,rfl,rfl,rfl,trivial⟩,Yz ?_⟩)
   refine Wt 7 [11,5,6,14,15,16,20,21,22,32,33,34] hs rfl ?_
   refine Zr<|Zy hs (Ya (s:=((j+1:Nat):Int)) rfl<|Wp 1 [] hs rfl ?_)
   have hs:=hs.f5.f5.f5
   have hpe:=parts_ff hp hq h38_0 h38_1
   refine Zx [5,6,14,15,16,20,21,22] rfl ⟨j+1,v6,_,hlg1,by omega,rfl,rfl,Bh (hs.wk [_,_,_]) Z23⟩
  refine Wp 4 [0] hs rfl<|Wu 5 [0] hs rfl<|Zy hs (Ya (s:=((k+1:Nat):Int)) rfl<|Wp 1 [] hs rfl ?_)
  obtain rfl:j=cs.length:=by omega
  rw [Aaj] at hs
  refine Zx [3,14,15,16] rfl ⟨k+1,Uq cs c,v6,_,hlg0,by omega,by rw [uZ oM,← hcs,hce],rfl,rfl,hs.wk [_]⟩
 refine Wp 4 [0] hs rfl ?_
 obtain rfl:k=l.length:=by omega
 obtain ⟨bq,cq,hzbq,_⟩:=hs.rowForm 0 rfl oM
 subst hzbq
 refine Wu 3 [] hs rfl<|O_s (Sc (srtc_ok hpt hT) hs rfl fun v11 G' H' _ hR hG48 hs=>?_)
 obtain rfl:=hR
 replace hs:=hs.n rfl
 refine Wp 6 [0,0] hs rfl<|As<|Zz results69 rfl ?_
 obtain ⟨G9,hG9,hf,hs⟩:=hs.fixRow noM
 rw [Aaj] at hcs
 exact hs.q (by rw [show Gg l=jK cs from by rw [hcs];rfl];exact Px (by rw [(Cn7.sort_perm cs).length_eq];exact hf) (pt_c4 (hpt.perm (Cn7.sort_perm cs))))
theorem PL88:places prog 88=some [(0,1),(1,4),(5,1),(6,1),(7,1),(8,1)]:=by kernel_rfl
theorem TI37:TI prog 37 (.agg #[Vn,Vn,Vn]) 3 72:=TI.of kR
theorem gM {k:Int} :
  Ba prog 151 [Vi k] G [] fun r _ H'=>H'=[]∧r=Vi ((Ua k:Nat):Int):=by
 refine Ba.of_T [(0,_)] func151 rfl ntmps151 sM rfl fun w0 hs =>Wt 13 [0,0] hs rfl<|Zy hs (Yc rfl (fun h5=>?_) fun h5=>?_)
 ·
  refine Wp 9 [0,0] hs rfl<|As<|Zz results151 rfl ?_
  exact hs.q (by rw [yM oM];rfl)
 refine Wp 5 [0] hs rfl<|Zy hs (Yc rfl (fun h6=>?_) fun h6=>?_)
 ·
  refine Wp 9 [0,0] hs rfl<|As<|Zz results151 rfl ?_
  exact hs.q (by rw [yM oM];rfl)
 refine Wp 4 [0] hs rfl<|Zy hs (Yc rfl (fun h7=>?_) fun h7=>?_)
 ·
  refine Wp 7 [0,0] hs rfl<|As<|Zz results151 rfl ?_
  exact hs.q (by rw [yM oM];rfl)
 refine Wp 6 [0] hs rfl<|Zy hs (Yc rfl (fun h9=>?_) fun h9=>?_)
 ·
  refine Wp 9 [0,0] hs rfl<|As<|Zz results151 rfl ?_
  exact hs.q (by rw [arF_1 oM];rfl)
 refine Wp 4 [0] hs rfl<|Zy hs (Yc rfl (fun h10=>?_) fun h10=>?_)
 ·
  refine Wp 7 [0,0] hs rfl<|As<|Zz results151 rfl ?_
  exact hs.q (by rw [arF_1 oM];rfl)
 refine Wp 8 [0,0] hs rfl<|As<|Zz results151 rfl ?_
 exact hs.q (by rw [arF_0 oM oM];rfl)
theorem in_ok {x:Int} {i p:Nat} :
  Ba prog 175 [Vi x,Vp p] G [.blk p 3 [Vi (i:Int)]] fun r _ H'=>H'=[.blk p 3 [Vi (i:Int)]]∧r=.bool (decide (0≤x∧x<(i:Int))):=by
 refine Ba.of_T [(0,_),(1,_)] func175 rfl ntmps175 sM rfl fun w0 hs =>Wt 7 [0] hs rfl<|Zy hs (Yc rfl (fun h5=>?_) fun h5=>?_)
 ·
  refine Wp 3 [0] hs rfl<|Zg hs rfl (Yc rfl (fun h9=>?_) fun h9=>?_)
  ·
   refine Wp 3 [0] hs rfl<|As<|Zz results175 rfl ?_
   exact ⟨_,_,hs,rfl,congrArg Value.bool (decide_eq_true oM).symm⟩
  refine Wp 3 [0] hs rfl<|As<|Zz results175 rfl ?_
  exact ⟨_,_,hs,rfl,congrArg Value.bool (decide_eq_false oM).symm⟩
 refine Wp 7 [0] hs rfl<|As<|Zz results175 rfl ?_
 exact ⟨_,_,hs,rfl,congrArg Value.bool (decide_eq_false oM).symm⟩
theorem oG {n:Ew} {i:Int} (h:0<Ua n.kind∧¬ (0≤n.l∧n.l<i)):¬ Nw n i:=fun ho=>h.2 (ops_l ho h.1)
theorem oH {n:Ew} {i:Int} (h:Ua n.kind=0∧n.l≠0):¬ Nw n i:=fun ho=>by have h1:=ho.1;rw [if_neg oM] at h1;exact h.2 h1
theorem oI {n:Ew} {i:Int} (h:1<Ua n.kind∧¬ (0≤n.r∧n.r<i)):¬ Nw n i:=fun ho=>h.2 (ops_r ho h.1)
theorem ops_b8 {n:Ew} {i:Int} (h:Ua n.kind<2∧n.r≠0):¬ Nw n i:=fun ho=>by have h1:=ho.2;rw [if_neg oM] at h1;exact h.2 h1
theorem Eh {b:Bool} {P:Prop} (h:b=true↔P) (hb:b=false):¬ P:=fun p=>by rw [h.2 p] at hb;cases hb
theorem rZ {n:Ew} {i:Int} (h5:¬ (0<Ua n.kind∧¬ (0≤n.l∧n.l<i))) (h6:¬ (Ua n.kind=0∧n.l≠0)) (h7:¬ (1<Ua n.kind∧¬ (0≤n.r∧n.r<i))) (h8:¬ (Ua n.kind<2∧n.r≠0)):Nw n i:=by
  refine ⟨?_,?_⟩
  · by_cases h:0<Ua n.kind
    · rw [if_pos h];exact Classical.not_not.1 fun h'=>h5 ⟨h,h'⟩
    · rw [if_neg h];exact Classical.not_not.1 fun h'=>h6 ⟨by omega,h'⟩
  · by_cases h:1<Ua n.kind
    · rw [if_pos h];exact Classical.not_not.1 fun h'=>h7 ⟨h,h'⟩
    · rw [if_neg h];exact Classical.not_not.1 fun h'=>h8 ⟨by omega,h'⟩
theorem chk_ok {n:Ew} {i:Nat} (hc:Cj n.c) :
  Ba prog 150 [.agg (dW n).toArray,Vi (i:Int)] G [] fun r _ H'=>H'=[]∧r=Vi (Ep n i):=by
 obtain ⟨kd,c,ll,rr,mn,mx⟩:=n
 obtain ⟨c0,c1,c2,c3,rfl⟩:=Ei hc.1
 show Ba prog 150 [.agg #[Vi kd,Bb c0,Bb c1,Bb c2,Bb c3,Vi ll,Vi rr,Vi mn,Vi mx],Vi (i:Int)] G [] _
 refine Ba.of_T [(0,_),(1,_)] func150 rfl ntmps150 sM rfl fun w0 hs =>Wt 2 [] hs rfl<|O_s (Sb hs rfl fun b2 _ hs=>O_s (Sb hs rfl fun b3 _ hs=>Wp 7 [0,0,1] hs rfl<|Zy hs (Yc rfl (fun h9=>?_) fun h9=>?_)))
 ·
  refine Wp 11 [0,0] hs rfl<|As<|Zz results150 rfl ?_
  unfold Ep;rw [if_pos Eo]
  exact hs.q rfl
 refine Wp 3 [0,1] hs rfl<|Zg hs rfl (Yc rfl (fun h13=>?_) fun h13=>?_)
 ·
  refine Wp 7 [0,0] hs rfl<|As<|Zz results150 rfl ?_
  unfold Ep;rw [if_pos Eo]
  exact hs.q rfl
 refine Wp 6 [0] hs rfl<|Zy hs (He (vs:=[_]) rfl<|Wp 6 [0,0,1] hs rfl<|O_s (Sp (gM) hs rfl fun v1 G' _ hR hG18 hs=>?_))
 obtain rfl:=hR
 refine Wp 5 [0] hs rfl<|Yy (fun E w=>∃ (b5:Bool) (G':Ah),(b5=true↔(0<Ua kd∧¬ (0≤ll∧ll<(i:Int))))∧E=⟨[],[(2,Vp b2),(5,.func (.func 175) #[] #[Vp b3]),(6,Vi ((Ua kd:Nat):Int)),(19,.bool b5)]⟩∧St ⟨w0,G,Bj []⟩ G' [.blk b2 88 [Vi kd,Bb c0,Bb c1,Bb c2,Bb c3,Vi ll,Vi rr,Vi mn,Vi mx],.blk b3 3 [Vi (i:Int)]] w) ?_ ?_
 ·
  refine Wt 2 [] hs rfl<|Zy hs (Yc rfl (fun h21=>?_) fun h21=>?_)
  ·
   refine Wp 4 [5,1] hs rfl<|Dh 22 rfl rfl (Jb (args:=[_]) (lb:=[_]) (H1:=[_]) hs rfl rfl func175 rfl kR (in_ok (x:=ll)) fun v2 G' H' _ hR hG26 hs=>?_)
   obtain ⟨rfl,rfl⟩:=hR
   replace hs:=hs.n rfl
   cases h26:decide (0≤ll∧ll<(i:Int))
   ·
    refine Wp 3 [] hs rfl ?_
    have hs:=hs.f1
    exact Cr (⟨[(2,_),(5,_),(6,_),(19,_)],⟨rfl,rfl,rfl,rfl,trivial⟩,⟨_,_,⟨fun _=>⟨by omega,of_decide_eq_false h26⟩,fun _=>rfl⟩,rfl,hs⟩⟩)
   refine Wp 3 [] hs rfl ?_
   have hs:=hs.f1
   exact Cr (⟨[(2,_),(5,_),(6,_),(19,_)],⟨rfl,rfl,rfl,rfl,trivial⟩,⟨_,_,⟨fun h=>Wn,fun h=>absurd (of_decide_eq_true h26) h.2⟩,rfl,hs⟩⟩)
  refine Wp 8 [] hs rfl ?_
  have hs:=hs.f1
  exact Cr (⟨[(2,_),(5,_),(6,_),(19,_)],⟨rfl,rfl,rfl,rfl,trivial⟩,⟨_,_,⟨fun h=>Wn,fun h=>absurd h.1 oM⟩,rfl,hs⟩⟩)
 clear hs
 intro E w hI
 obtain ⟨b5,G',hb5,rfl,hs⟩:=hI
 refine Lo (fun E w=>∃ (bj:Bool) (G':Ah),(bj=true↔¬ Nw ⟨kd,[c0,c1,c2,c3],ll,rr,mn,mx⟩ (i:Int))∧E=⟨[],[(2,Vp b2),(19,.bool bj)]⟩∧St ⟨w0,G,Bj []⟩ G' [.blk b2 88 [Vi kd,Bb c0,Bb c1,Bb c2,Bb c3,Vi ll,Vi rr,Vi mn,Vi mx],.blk b3 3 [Vi (i:Int)]] w) ?_ ?_
 ·
  refine Fk rfl (fun hif=>?_) (fun hif=>?_)
  ·
   refine Og ?_
   have hs:=hs.f1.f1
   exact ⟨[(2,_),(19,_)],⟨rfl,rfl,trivial⟩,⟨_,_,⟨fun _=>by first|exact oI (hb7.1 hif)|exact oH (hb6.1 hif)|exact oG (hb5.1 hif),fun _=>hif⟩,rfl,hs⟩⟩
  have hn5:=hif
  refine Yy (fun E w=>∃ (b6:Bool) (G':Ah),(b6=true↔(Ua kd=0∧ll≠0))∧E=⟨[],[(2,Vp b2),(5,.func (.func 175) #[] #[Vp b3]),(6,Vi ((Ua kd:Nat):Int)),(19,.bool b6)]⟩∧St ⟨w0,G,Bj []⟩ G' [.blk b2 88 [Vi kd,Bb c0,Bb c1,Bb c2,Bb c3,Vi ll,Vi rr,Vi mn,Vi mx],.blk b3 3 [Vi (i:Int)]] w) ?_ ?_
  ·
   refine Wt 2 [] hs rfl<|Zy hs (Yc rfl (fun h30=>?_) fun h30=>?_)
   ·
    refine Wp 3 [5,0] hs rfl<|Zg hs rfl (Yc rfl (fun h34=>?_) fun h34=>?_)
    ·
     refine Wp 2 [] hs rfl ?_
     have hs:=hs.f1.f1
     exact Cr (⟨[(2,_),(5,_),(6,_),(19,_)],⟨rfl,rfl,rfl,rfl,trivial⟩,⟨_,_,⟨fun _=>⟨by omega,by omega⟩,fun _=>rfl⟩,rfl,hs⟩⟩)
    refine Wp 2 [] hs rfl ?_
    have hs:=hs.f1.f1
    exact Cr (⟨[(2,_),(5,_),(6,_),(19,_)],⟨rfl,rfl,rfl,rfl,trivial⟩,⟨_,_,⟨fun h=>Wn,fun h=>absurd h.2 oM⟩,rfl,hs⟩⟩)
   refine Wp 6 [] hs rfl ?_
   have hs:=hs.f1.f1
   exact Cr (⟨[(2,_),(5,_),(6,_),(19,_)],⟨rfl,rfl,rfl,rfl,trivial⟩,⟨_,_,⟨fun h=>Wn,fun h=>absurd h.1 oM⟩,rfl,hs⟩⟩)
  clear hs
  intro E w hI
  obtain ⟨b6,G',hb6,rfl,hs⟩:=hI
  refine Fk rfl (fun hif=>?_) (fun hif=>?_)
  ·
   refine Og ?_
   have hs:=hs.f1.f1
   exact ⟨[(2,_),(19,_)],⟨rfl,rfl,trivial⟩,⟨_,_,⟨fun _=>by first|exact oI (hb7.1 hif)|exact oH (hb6.1 hif)|exact oG (hb5.1 hif),fun _=>hif⟩,rfl,hs⟩⟩
  have hn6:=hif
  refine Yy (fun E w=>∃ (b7:Bool) (G':Ah),(b7=true↔(1<Ua kd∧¬ (0≤rr∧rr<(i:Int))))∧E=⟨[],[(2,Vp b2),(6,Vi ((Ua kd:Nat):Int)),(19,.bool b7)]⟩∧St ⟨w0,G,Bj []⟩ G' [.blk b2 88 [Vi kd,Bb c0,Bb c1,Bb c2,Bb c3,Vi ll,Vi rr,Vi mn,Vi mx],.blk b3 3 [Vi (i:Int)]] w) ?_ ?_
  ·
   refine Wt 2 [] hs rfl<|Zy hs (Yc rfl (fun h37=>?_) fun h37=>?_)
   ·
    refine Wp 4 [6,0] hs rfl<|Dh 38 rfl rfl (Jb (args:=[_]) (lb:=[_]) (H1:=[_]) hs.f1 rfl rfl func175 rfl kR (in_ok (x:=rr)) fun v3 G' H' _ hR hG42 hs=>?_)
    obtain ⟨rfl,rfl⟩:=hR
    replace hs:=hs.n rfl
    cases h42:decide (0≤rr∧rr<(i:Int))
    ·
     refine Wp 3 [] hs rfl ?_
     have hs:=hs.f1
     exact Cr (⟨[(2,_),(6,_),(19,_)],⟨rfl,rfl,rfl,trivial⟩,⟨_,_,⟨fun _=>⟨by omega,of_decide_eq_false h42⟩,fun _=>rfl⟩,rfl,hs⟩⟩)
    refine Wp 3 [] hs rfl ?_
    have hs:=hs.f1
    exact Cr (⟨[(2,_),(6,_),(19,_)],⟨rfl,rfl,rfl,trivial⟩,⟨_,_,⟨fun h=>Wn,fun h=>absurd (of_decide_eq_true h42) h.2⟩,rfl,hs⟩⟩)
   refine Wp 8 [] hs rfl ?_
   have hs:=hs.f1.f1
   exact Cr (⟨[(2,_),(6,_),(19,_)],⟨rfl,rfl,rfl,trivial⟩,⟨_,_,⟨fun h=>Wn,fun h=>absurd h.1 oM⟩,rfl,hs⟩⟩)
  clear hs
  intro E w hI
  obtain ⟨b7,G',hb7,rfl,hs⟩:=hI
  refine Fk rfl (fun hif=>?_) (fun hif=>?_)
  ·
   refine Og ?_
   have hs:=hs.f1.f1
   exact ⟨[(2,_),(19,_)],⟨rfl,rfl,trivial⟩,⟨_,_,⟨fun _=>by first|exact oI (hb7.1 hif)|exact oH (hb6.1 hif)|exact oG (hb5.1 hif),fun _=>hif⟩,rfl,hs⟩⟩
  refine Wt 2 [] hs rfl<|Zy hs (Yc rfl (fun h46=>?_) fun h46=>?_)
  ·
   refine Wp 3 [6,0] hs rfl<|Zg hs rfl (Yc rfl (fun h50=>?_) fun h50=>?_)
   ·
    refine Wp 2 [] hs rfl ?_
    have hs:=hs.f1.f1
    exact Cr (⟨[(2,_),(19,_)],⟨rfl,rfl,trivial⟩,⟨_,_,⟨fun _=>ops_b8 ⟨by dsimp only;omega,by dsimp only;omega⟩,fun _=>rfl⟩,rfl,hs⟩⟩)
   refine Wp 2 [] hs rfl ?_
   have hs:=hs.f1.f1
   exact Cr (⟨[(2,_),(19,_)],⟨rfl,rfl,trivial⟩,⟨_,_,⟨fun h=>Wn,fun h=>absurd (rZ (Eh hb5 hn5) (Eh hb6 hn6) (Eh hb7 hif) (fun p=>p.2 Eo)) h⟩,rfl,hs⟩⟩)
  refine Wp 6 [] hs rfl ?_
  have hs:=hs.f1.f1
  exact Cr (⟨[(2,_),(19,_)],⟨rfl,rfl,trivial⟩,⟨_,_,⟨fun h=>Wn,fun h=>absurd (rZ (Eh hb5 hn5) (Eh hb6 hn6) (Eh hb7 hif) (fun p=>by have:=p.1;dsimp only at this;omega)) h⟩,rfl,hs⟩⟩)
 clear hs
 intro D M L w hL hI
 obtain ⟨bj,G',hj,hE,hs⟩:=hI
 cases hE
 refine Oh _ hL<|Fk rfl (fun hif=>?_) (fun hif=>?_)
 ·
  refine Wt 4 [0] hs rfl<|As<|Zz results150 rfl ?_
  unfold Ep;rw [if_neg Eo]
  rw [if_pos (hj.1 hif)]
  exact hs.q rfl
 refine Wt 4 [0,0] hs rfl<|Zy hs (Yc rfl (fun h55=>?_) fun h55=>?_)
 ·
  refine Wp 3 [1,0] hs rfl<|Zg hs rfl (Dr underlying86 sizeOf84 zeroValue86 rfl rfl (cs:=[_,_,_,_]) rfl<|Zg hs rfl (Nc (a:=[c0,c1,c2,c3]) (b:=[0,0,0,0]) underlying86 sizeOf84 isAgg84 underlying84 rfl rfl rfl rfl rfl hc.2 dC (fun h60=>?_) (fun h60=>?_)))
  ·
   refine Wp 8 [2,2,52,0] hs rfl<|As<|Zz results150 rfl ?_
   unfold Ep;rw [if_neg Eo]
   rw [if_neg (Eh hj hif)]
   rw [if_pos ⟨by dsimp only;omega,h60⟩]
   exact hs.q rfl
  refine Wp 8 [2,2,52,0,0] hs rfl<|Zy hs (Yc rfl (fun h65=>?_) fun h65=>?_)
  ·
   refine Wp 8 [0,7,0] hs rfl<|Zy hs (Yc rfl (fun h68=>?_) fun h68=>?_)
   ·
    refine Wp 11 [0,0] hs rfl<|As<|Zz results150 rfl ?_
    unfold Ep;rw [if_neg Eo]
    rw [if_neg (Eh hj hif)]
    rw [if_neg (fun h=>h.2 h60)]
    rw [if_pos Eo,if_pos Eo]
    exact hs.q rfl
   refine Wp 3 [8,0] hs rfl<|Zg hs rfl (Yc rfl (fun h72=>?_) fun h72=>?_)
   ·
    refine Wp 7 [0,0] hs rfl<|As<|Zz results150 rfl ?_
    unfold Ep;rw [if_neg Eo]
    rw [if_neg (Eh hj hif)]
    rw [if_neg (fun h=>h.2 h60)]
    rw [if_pos Eo,if_pos Eo]
    exact hs.q rfl
   refine Wp 8 [0,0] hs rfl<|As<|Zz results150 rfl ?_
   unfold Ep;rw [if_neg Eo]
   rw [if_neg (Eh hj hif)]
   rw [if_neg (fun h=>h.2 h60)]
   rw [if_pos Eo,if_neg Eo]
   exact hs.q rfl
  refine Wp 8 [0,7,0] hs rfl<|Zy hs (Yc rfl (fun h77=>?_) fun h77=>?_)
  ·
   refine Wp 9 [0,0] hs rfl<|As<|Zz results150 rfl ?_
   unfold Ep;rw [if_neg Eo]
   rw [if_neg (Eh hj hif)]
   rw [if_neg (fun h=>h.2 h60)]
   rw [if_neg Eo]
   rw [if_pos Eo]
   exact hs.q rfl
  refine Wp 6 [0,8,0] hs rfl<|Zy hs (Yc rfl (fun h80=>?_) fun h80=>?_)
  ·
   refine Wp 7 [0,0] hs rfl<|As<|Zz results150 rfl ?_
   unfold Ep;rw [if_neg Eo]
   rw [if_neg (Eh hj hif)]
   rw [if_neg (fun h=>h.2 h60)]
   rw [if_neg Eo]
   rw [if_pos Eo]
   exact hs.q rfl
  refine Wp 8 [0,7,0] hs rfl<|Zy hs (Yc rfl (fun h84=>?_) fun h84=>?_)
  ·
   refine Wp 9 [0,0] hs rfl<|As<|Zz results150 rfl ?_
   unfold Ep;rw [if_neg Eo]
   rw [if_neg (Eh hj hif)]
   rw [if_neg (fun h=>h.2 h60)]
   rw [if_neg Eo]
   rw [if_neg Eo]
   rw [if_pos Eo]
   exact hs.q rfl
  refine Wp 6 [0,8,0] hs rfl<|Zy hs (Yc rfl (fun h87=>?_) fun h87=>?_)
  ·
   refine Wp 7 [0,0] hs rfl<|As<|Zz results150 rfl ?_
   unfold Ep;rw [if_neg Eo]
   rw [if_neg (Eh hj hif)]
   rw [if_neg (fun h=>h.2 h60)]
   rw [if_neg Eo]
   rw [if_neg Eo]
   rw [if_pos Eo]
   exact hs.q rfl
  refine Wp 7 [0,8,0] hs rfl<|Zy hs (Yc rfl (fun h91=>?_) fun h91=>?_)
  ·
   refine Wp 5 [8,0,7,0] hs rfl<|Zg hs rfl (Yc rfl (fun h97=>?_) fun h97=>?_)
   ·
    refine Wp 8 [1,88,0] hs rfl<|As<|Zz results150 rfl ?_
    unfold Ep;rw [if_neg Eo]
    rw [if_neg (Eh hj hif)]
    rw [if_neg (fun h=>h.2 h60)]
    rw [if_neg Eo]
    rw [if_neg Eo]
    rw [if_neg Eo]
    rw [if_pos Eo]
    exact hs.q rfl
   refine Wp 5 [1,88] hs rfl<|Wu 4 [0] hs rfl<|As<|Zz results150 rfl ?_
   unfold Ep;rw [if_neg Eo]
   rw [if_neg (Eh hj hif)]
   rw [if_neg (fun h=>h.2 h60)]
   rw [if_neg Eo]
   rw [if_neg Eo]
   rw [if_neg Eo]
   rw [if_neg Eo]
   exact hs.q rfl
  refine Wp 11 [1,88] hs rfl<|Wu 4 [0] hs rfl<|As<|Zz results150 rfl ?_
  unfold Ep;rw [if_neg Eo]
  rw [if_neg (Eh hj hif)]
  rw [if_neg (fun h=>h.2 h60)]
  rw [if_neg Eo]
  rw [if_neg Eo]
  rw [if_neg Eo]
  rw [if_neg Eo]
  exact hs.q rfl
 refine Wp 13 [2,2,52,0,0] hs rfl<|Zy hs (Yc rfl (fun h65=>?_) fun h65=>?_)
 ·
  refine Wp 8 [0,7,0] hs rfl<|Zy hs (Yc rfl (fun h68=>?_) fun h68=>?_)
  ·
   refine Wp 11 [0,0] hs rfl<|As<|Zz results150 rfl ?_
   unfold Ep;rw [if_neg Eo]
   rw [if_neg (Eh hj hif)]
   rw [if_neg (fun h=>absurd h.1 Eo)]
   rw [if_pos Eo,if_pos Eo]
   exact hs.q rfl
  refine Wp 3 [8,0] hs rfl<|Zg hs rfl (Yc rfl (fun h72=>?_) fun h72=>?_)
  ·
   refine Wp 7 [0,0] hs rfl<|As<|Zz results150 rfl ?_
   unfold Ep;rw [if_neg Eo]
   rw [if_neg (Eh hj hif)]
   rw [if_neg (fun h=>absurd h.1 Eo)]
   rw [if_pos Eo,if_pos Eo]
   exact hs.q rfl
  refine Wp 8 [0,0] hs rfl<|As<|Zz results150 rfl ?_
  unfold Ep;rw [if_neg Eo]
  rw [if_neg (Eh hj hif)]
  rw [if_neg (fun h=>absurd h.1 Eo)]
  rw [if_pos Eo,if_neg Eo]
  exact hs.q rfl
 refine Wp 8 [0,7,0] hs rfl<|Zy hs (Yc rfl (fun h77=>?_) fun h77=>?_)
 ·
  refine Wp 9 [0,0] hs rfl<|As<|Zz results150 rfl ?_
  unfold Ep;rw [if_neg Eo]
  rw [if_neg (Eh hj hif)]
  rw [if_neg (fun h=>absurd h.1 Eo)]
  rw [if_neg Eo]
  rw [if_pos Eo]
  exact hs.q rfl
 refine Wp 6 [0,8,0] hs rfl<|Zy hs (Yc rfl (fun h80=>?_) fun h80=>?_)
 ·
  refine Wp 7 [0,0] hs rfl<|As<|Zz results150 rfl ?_
  unfold Ep;rw [if_neg Eo]
  rw [if_neg (Eh hj hif)]
  rw [if_neg (fun h=>absurd h.1 Eo)]
  rw [if_neg Eo]
  rw [if_pos Eo]
  exact hs.q rfl
 refine Wp 8 [0,7,0] hs rfl<|Zy hs (Yc rfl (fun h84=>?_) fun h84=>?_)
 ·
  refine Wp 9 [0,0] hs rfl<|As<|Zz results150 rfl ?_
  unfold Ep;rw [if_neg Eo]
  rw [if_neg (Eh hj hif)]
  rw [if_neg (fun h=>absurd h.1 Eo)]
  rw [if_neg Eo]
  rw [if_neg Eo]
  rw [if_pos Eo]
  exact hs.q rfl
 refine Wp 6 [0,8,0] hs rfl<|Zy hs (Yc rfl (fun h87=>?_) fun h87=>?_)
 ·
  refine Wp 7 [0,0] hs rfl<|As<|Zz results150 rfl ?_
  unfold Ep;rw [if_neg Eo]
  rw [if_neg (Eh hj hif)]
  rw [if_neg (fun h=>absurd h.1 Eo)]
  rw [if_neg Eo]
  rw [if_neg Eo]
  rw [if_pos Eo]
  exact hs.q rfl
 refine Wp 7 [0,8,0] hs rfl<|Zy hs (Yc rfl (fun h91=>?_) fun h91=>?_)
 ·
  refine Wp 5 [8,0,7,0] hs rfl<|Zg hs rfl (Yc rfl (fun h97=>?_) fun h97=>?_)
  ·
   refine Wp 8 [1,88,0] hs rfl<|As<|Zz results150 rfl ?_
   unfold Ep;rw [if_neg Eo]
   rw [if_neg (Eh hj hif)]
   rw [if_neg (fun h=>absurd h.1 Eo)]
   rw [if_neg Eo]
   rw [if_neg Eo]
   rw [if_neg Eo]
   rw [if_pos Eo]
   exact hs.q rfl
  refine Wp 5 [1,88] hs rfl<|Wu 4 [0] hs rfl<|As<|Zz results150 rfl ?_
  unfold Ep;rw [if_neg Eo]
  rw [if_neg (Eh hj hif)]
  rw [if_neg (fun h=>absurd h.1 Eo)]
  rw [if_neg Eo]
  rw [if_neg Eo]
  rw [if_neg Eo]
  rw [if_neg Eo]
  exact hs.q rfl
 refine Wp 11 [1,88] hs rfl<|Wu 4 [0] hs rfl<|As<|Zz results150 rfl ?_
 unfold Ep;rw [if_neg Eo]
 rw [if_neg (Eh hj hif)]
 rw [if_neg (fun h=>absurd h.1 Eo)]
 rw [if_neg Eo]
 rw [if_neg Eo]
 rw [if_neg Eo]
 rw [if_neg Eo]
 exact hs.q rfl
theorem rxv_ok {v:Value} {l:List Ew} (hx:Rx G v l) (hl:l.length≤1000000000) :
  Ba prog 104 [v] G [] fun r _ H'=>H'=[]∧r=Vi (Nm l):=by
 obtain ⟨A,cap,rfl⟩:=Bi.slice hx
 refine Ba.of_T [(0,_)] func104 rfl ntmps104 sM rfl fun w0 hs=>?_
 have hx0:=hx
 refine Wt 10 [0] hs rfl<|Zy hs (Yc rfl (fun h12=>?_) fun h12=>?_)
 ·
  refine Wp 7 [0,0] hs rfl<|As<|Zz results104 rfl ?_
  rw [uL oM]
  exact hs.q rfl
 refine Wp 7 [0] hs rfl<|Zy hs (Yc rfl (fun h16=>?_) fun h16=>?_)
 ·
  refine Wp 7 [0,0] hs rfl<|As<|Zz results104 rfl ?_
  rw [uM oM]
  exact hs.q rfl
 refine Wp 8 [0] hs rfl<|O_s (Dw (n:=l.length) (m:=l.length) hs underlying79 Qx rfl rfl rfl oM oM oM fun b19 _ hs =>Wp 9 [0,0] hs rfl<|Zl [0,3,20,21,22] (fun m E w=>∃ (k:Nat) (cs:List Nat) (G':Ah),k≤l.length∧cs=(l.take k).foldl Oa (List.replicate l.length 0)∧Tg 0 l=Tg k (l.drop k)∧cs.length=l.length∧(∀ x∈cs,x≤2*k)∧m=l.length-k∧E=⟨[],[(0,(.slice A l.length cap)),(3,Vs b19 l.length l.length),(20,(.slice A l.length cap)),(21,Vi ((l.length:Nat):Int)),(22,Vi (k:Int))]⟩∧St ⟨w0,G,Bj []⟩ G' [.row 3 1 (Vs b19 l.length l.length) l.length (cs.map natW)] w) rfl (⟨0,List.replicate l.length 0,_,by omega,rfl,rfl,by simp,fun x hx=>by rw [Aba hx];exact Aas _,rfl,rfl,by rw [Abk];exact hs⟩) fun m E w hI=>?_)
 obtain ⟨k,cs,G',hk,hcs,herr,hcl,hcb,rfl,rfl,hs⟩:=hI
 have hx:=hx0.mono hs.le
 refine Wt 2 [] hs rfl<|Zy hs (Yc rfl (fun h23=>?_) fun h23=>?_)
 ·
  refine Wp 9 [0] hs rfl<|Zy hs (Ca hx k underlying90 sizeOf88 rfl rfl rfl oM fun p25 c25 hp25 hc25 hR25=>?_)
  obtain ⟨rfl,hco⟩:=hR25
  obtain ⟨nk,hnk⟩:∃ n,n=l[k]:=⟨_,rfl⟩
  rw [← hnk] at hp25 hco
  obtain ⟨kd,cc,ll,rr,mn,mx⟩:=nk
  obtain ⟨c0,c1,c2,c3,rfl⟩:=Ei hco.1
  refine Zy hs (Db (vs:=[Vi kd,Bb c0,Bb c1,Bb c2,Bb c3,Vi ll,Vi rr,Vi mn,Vi mx]) isAgg88 sizeOf88 rfl hp25 rfl<|O_s (Sa hs zeroValue88 rfl fun b5 _ hs=>Wp 1 [] hs rfl<|O_n (Sg hs rfl (rfl) fun _ hs=>Wp 6 [0,0] hs rfl<|O_s (Sp (chk_ok (n:=⟨kd,[c0,c1,c2,c3],ll,rr,mn,mx⟩) (i:=k) hco) hs rfl fun v1 G' _ hR hG29 hs=>?_))))
  obtain rfl:=hR
  refine Wp 5 [0] hs rfl ?_
  replace hx:=hx.mono hG29
  refine Zy hs (Yc rfl (fun h31=>?_) fun h31=>?_)
  ·
   refine Wp 7 [0,0] hs rfl<|As<|Zz results104 rfl ?_
   have he:=yO (l:=l) (k:=k) oM (by rw [← hnk];exact h31)
   rw [uN oM oM (by rw [herr,he,← hnk];exact h31),herr,he,← hnk]
   exact hs.q rfl
  refine Wp 3 [0] hs rfl ?_
  have hne:Ep ⟨kd,[c0,c1,c2,c3],ll,rr,mn,mx⟩ k=0:=by omega
  refine Wu 5 [0,0] hs rfl<|O_s (Sp (gM) hs rfl fun v2 G' _ hR hG35 hs=>?_)
  obtain rfl:=hR
  replace hx:=hx.mono hG35
  refine Zy hs (Yc rfl (fun h36=>?_) fun h36=>?_)
  ·
   refine Wp 1 [0] hs rfl ?_
   have hop:=ops_l (dY hne) Eo
   dsimp only at hop
   obtain ⟨L,rfl⟩:∃ L:Nat,ll=(L:Int):=Abp hop.1
   have hL:L<cs.length:=by omega
   refine Wu 5 [5,0] hs rfl<|Zy hs (Be (L) underlying79 sizeOf3 rfl rfl rfl oM<|Zy hs (Cm 1 rfl isAgg3 rfl (by rw [Aak,AaA hL];rfl) ?_))
   refine Zy hs (Kn (c:=((cs[L]'hL+1:Nat):Int)) rfl rfl oM (by have:=hcb _ (AaD hL);omega)<|Zy hs (Be (L) underlying79 sizeOf3 rfl rfl rfl oM<|O_n (Bz hs.f1 sizeOf3 rfl rfl rfl oM fun _ hs =>Wp 1 [6,0,3,5,20,21,22] hs rfl ?_)))
   rw [qZ hL] at hs
   refine Wu 4 [0,1] hs rfl<|O_s (Sp (gM) hs rfl fun v3 G' _ hR hG46 hs=>?_)
   obtain rfl:=hR
   replace hx:=hx.mono hG46
   refine Zy hs (Yc rfl (fun h47=>?_) fun h47=>?_)
   ·
    refine Wp 1 [0] hs rfl ?_
    have hop2:=ops_r (dY hne) Eo
    dsimp only at hop2
    obtain ⟨R,rfl⟩:∃ R:Nat,rr=(R:Int):=Abp hop2.1
    have hR:R<(cs.modify L (·+1)).length:=by rw [List.length_modify];omega
    refine Wu 5 [6,1] hs rfl<|Zy hs (Be (R) underlying79 sizeOf3 rfl rfl rfl oM<|Zy hs (Cm 0 rfl isAgg3 rfl (by rw [Aak,AaA hR];rfl) ?_))
    refine Zy hs (Kn (c:=(((cs.modify L (·+1))[R]'hR+1:Nat):Int)) rfl rfl oM (by have:=mod_le hcb _ (AaD hR);omega)<|Zy hs (Be (R) underlying79 sizeOf3 rfl rfl rfl oM<|O_n (Bz hs sizeOf3 rfl rfl rfl oM fun _ hs =>Wp 1 [0] hs rfl ?_)))
    rw [qZ hR] at hs
    refine Zr<|Zy hs (Ya (s:=((k+1:Nat):Int)) rfl<|Wp 1 [] hs rfl<|Zx [0,3,20,21,22] rfl ⟨k+1,Oa cs l[k],_,by omega,by rw [Bu _ _ _ _ oM,← hcs],by rw [herr];exact Va oM (by rw [← hnk];exact hne),by rw [Uz];exact hcl,fun x hx=>by have:=aV hcb x hx;omega,rfl,rfl,by rw [← hnk];unfold Oa;rw [if_pos Eo];exact hs.wk [_]⟩)
   refine Wp 4 [0] hs rfl<|Zy hs (Ya (s:=((k+1:Nat):Int)) rfl<|Wp 1 [] hs rfl<|Zx [0,3,20,21,22] rfl ⟨k+1,Oa cs l[k],_,by omega,by rw [Bu _ _ _ _ oM,← hcs],by rw [herr];exact Va oM (by rw [← hnk];exact hne),by rw [Uz];exact hcl,fun x hx=>by have:=aV hcb x hx;omega,rfl,rfl,by rw [← hnk];unfold Oa;rw [if_neg Eo,if_pos Eo];exact hs.wk [_]⟩)
  refine Wp 7 [0,0,0] hs rfl<|O_s (Sp (gM) hs rfl fun v4 G' _ hR hG46 hs=>?_)
  obtain rfl:=hR
  refine Zy hs (Mz rfl rfl rfl oM<|Wp 4 [7,0,3,5,20,21,22,47] hs rfl<|Zy hs (Ya (s:=((k+1:Nat):Int)) rfl<|Wp 1 [] hs rfl ?_))
  have hs:=hs.f1
  replace hx:=hx.mono hG46
  refine Zx [0,3,20,21,22] rfl ⟨k+1,Oa cs l[k],_,by omega,by rw [Bu _ _ _ _ oM,← hcs],by rw [herr];exact Va oM (by rw [← hnk];exact hne),by rw [Uz];exact hcl,fun x hx=>by have:=aV hcb x hx;omega,rfl,rfl,by rw [← hnk];unfold Oa;rw [if_neg Eo,if_neg Eo];exact hs.wk [_]⟩
 refine Wp 4 [0] hs rfl ?_
 obtain rfl:k=l.length:=by omega
 rw [Aaj] at hcs
 have hcs':cntF l=cs:=hcs.symm
 rw [List.drop_length] at herr
 have h0e:Tg 0 l=0:=herr
 obtain ⟨_,hG17,hsl,hs⟩:=hs.fixRow noM
 have hI:=yN hsl oM
 refine Wu 6 [] hs rfl<|Zy hs (Ll (c:=((l.length-1:Nat):Int)) rfl rfl oM oM<|Zy hs (wG hI 0 (l.length-1) underlying79 sizeOf3 rfl rfl ⟨_,_,rfl,rfl⟩ oM iA fun s60 hs60=>?_))
 obtain ⟨A60,c60,rfl,_⟩:=id hs60
 refine Wp 3 [0] hs rfl<|Zl [60,61,62] (fun m E w=>∃ (j:Nat) (G':Ah),j≤l.length-1∧(∀ i,i<j→cs.getD i 0=1)∧Wo G' (.slice A60 (((cs.map fun n:Nat=>(n:Int)).drop 0).take (l.length-1-0)).length c60) (((cs.map fun n:Nat=>(n:Int)).drop 0).take (l.length-1-0))∧m=l.length-1-j∧E=⟨[],[(60,.slice A60 (((cs.map fun n:Nat=>(n:Int)).drop 0).take (l.length-1-0)).length c60),(61,Vi ((((cs.map fun n:Nat=>(n:Int)).drop 0).take (l.length-1-0)).length:Int)),(62,Vi (j:Int))]⟩∧St ⟨w0,G,Bj []⟩ G' [] w) rfl (⟨0,_,by omega,fun i hi=>absurd hi oM,hs60,rfl,rfl,hs⟩) fun m E w hI=>?_
 obtain ⟨j,G',hj,hone,hsj,rfl,rfl,hs⟩:=hI
 have hx:=hx0.mono hs.le
 have hlen:(((cs.map fun n:Nat=>(n:Int)).drop 0).take (l.length-1-0)).length=l.length-1:=by rw [Aag,Abo,AaC];omega
 refine Wt 2 [] hs rfl<|Zy hs (Yc rfl (fun h63=>?_) fun h63=>?_)
 ·
  refine Wp 8 [0] hs rfl<|Zy hs (Y_idxI hsj j underlying79 sizeOf3 rfl rfl rfl oM fun p64 hp64 =>Zy hs (Yg rfl (hp64)<|Wp 5 [0] hs rfl ?_))
  have hel:(((cs.map fun n:Nat=>(n:Int)).drop 0).take (l.length-1-0))[j]'oM=((cs[j]'oM:Nat):Int):=by simp
  refine Zy hs (Yc rfl (fun h67=>?_) fun h67=>?_)
  ·
   refine Wp 6 [0,0] hs rfl<|As<|Zz results104 rfl ?_
   rw [dZ oM oM h0e,hcs',yQ (i:=j) oM oM (fun h=>h67 (by rw [hel];omega))]
   exact hs.q rfl
  refine Wp 4 [0] hs rfl<|Zy hs (Ya (s:=((j+1:Nat):Int)) rfl<|Wp 1 [] hs rfl ?_)
  have h1j:cs.getD j 0=1:=by rw [AaH,AaA oM,Option.getD_some];omega
  refine Zx [60,61,62] rfl ⟨j+1,_,by omega,fun i hi=>(AaM i j).elim (hone i) (fun h'=>by rw [show i=j by omega];exact h1j),hsj,rfl,rfl,hs⟩
 refine Wp 4 [0] hs rfl<|Wu 4 [0] hs rfl<|As<|Zz results104 rfl ?_
 rw [dZ oM oM h0e,hcs',yP (m:=l.length-1) (fun i hi=>hone i oM)]
 exact hs.q rfl
def eO:Cy:=⟨Gg [],[[0]],[false]⟩
theorem bP:Cn7.DOk eO:=(Cn7.cells_ok7 (l:=[]) (fun _ h=>by cases h)).1.part
def kX (b:Bool) (D:Cy):Prop:=Cn7.Can D∧D.next.length≤1∧∀ u,Cn7.lb (Av D) 0 u=b
theorem none_lb (q:Nat) (u:List UInt8):Cn7.lb (Av eO) q u=false:=by
  rw [Cn7.lb_end]
  show ([false]:List Bool).getD _ false=false
  cases Cn7.aft (Av eO) q u<;>rfl
theorem none_can:∃ D,Eu (Av eO)=some D∧kX false D:=by
  obtain ⟨D,h1,h2,h3,h4⟩:=Cn7.canon_ok (Cn7.tab_ok bP)
  exact ⟨D,h1,h2,h3,fun u=>by rw [h4,none_lb]⟩
def noneX:List Ew:=[⟨1,[0,0,0,0],0,0,0,0⟩,⟨7,[0,0,0,0],0,0,0,0⟩]
theorem ln_one {v u:Value} {l:List Nat} (h:Sl G v 1 1 [u]) (hu:De G u l):LN G v [l]:=⟨[[u]],h,⟨⟨u,rfl,hu⟩,trivial⟩,by intro c hc;rw [AaE.1 hc];rfl⟩
theorem vC:Nm noneX=0:=by decide
theorem none7_ok (hT:Tab G) :
  Ba prog 152 [] G [] fun r G' H'=>H'=[]∧∃ D vd,r=.tuple #[vd,Vi 0]∧Hm G' vd D∧kX false D:=by
 obtain ⟨D,hD,hcan⟩:=none_can
 have hdok:=bP
 have hvd:=Cn7.validD_of hdok dC
 have hokd:(Av eO).ok:=(Cn7.tab_ok hdok).tb dC
 refine Ba.of_T [] func152 rfl ntmps152 sM rfl fun w0 hs=>?_
 have hT0:=hT
 refine Wt 2 [] hs rfl<|O_s (Sa hs zeroValue37 rfl fun b0 _ hs=>Wp 4 [0] hs rfl<|O_s (Sp (gL (l:=[]) Bi.nil (fun _ h=>by cases h) dC hT) hs rfl fun v1 G' _ hcl hG2 hs=>?_))
 obtain ⟨A2,c2,rfl⟩:=hcl.slice
 refine O_s (Se hs zeroValue3 rfl fun v2 _ hs _=>?_)
 have hsN:=hs.fixRow noM
 clear hs
 obtain ⟨_,hG3,hl3,hs⟩:=hsN
 have hn3:De _ _ [0]:=hl3
 obtain ⟨A3,c3,rfl,_⟩:=id hl3
 refine O_s (Se hs zeroValue79 rfl fun v3 _ hs _=>?_)
 have hsN:=hs.fixRow noM
 clear hs
 obtain ⟨_,hG4,hl4,hs⟩:=hsN
 replace hn3:=hn3.mono hG4
 have hn4:=ln_one hl4 hn3
 obtain ⟨A4,c4,rfl,_⟩:=id hl4
 refine O_s (Se hs zeroValue4 rfl fun v4 _ hs _=>?_)
 have hsN:=hs.fixRow noM
 clear hs
 obtain ⟨_,hG5,hl5,hs⟩:=hsN
 have hb5:Dt _ _ [false]:=hl5
 obtain ⟨A5,c5,rfl,_⟩:=id hl5
 refine Zy hs (Ce zeroValue37 rfl nN rfl (cs:=[_,_,_]) rfl ?_)
 replace hT:=hT.mono (hG2.trans (hG3.trans (hG4.trans hG5)))
 replace hcl:=hcl.mono (hG3.trans (hG4.trans hG5))
 replace hn4:=hn4.mono hG5
 refine O_s (Sp (Xk (d:=eO) ⟨_,_,_,rfl,hcl,hn4,hb5⟩ hvd hokd hD hT) hs rfl fun v5 G' _ hR hG7 hs=>?_)
 obtain ⟨vd,rfl,hz⟩:=hR
 obtain ⟨zc,zn,za,rfl,hzC,hzN,hzA⟩:=hz
 obtain ⟨Cz,cz,rfl⟩:=Bi.slice hzC
 obtain ⟨Nz,nz,rfl⟩:=Bi.slice hzN
 obtain ⟨Az,az,rfl,_⟩:=id hzA
 refine Wp 2 [] hs rfl<|O_n (Sg hs rfl (rfl) fun _ hs=>Wp 2 [0] hs rfl<|As ?_)
 have hr:=hs
 refine By (vs:=[_,_]) results152 rfl ⟨Bq 0 hr isAgg37 sizeOf37 rfl (cs:=[_,_,_]) rfl rfl,rfl,trivial⟩ ?_
 try dsimp only [tup]
 exact hs.q ⟨D,_,rfl,⟨_,_,_,rfl,hzC,hzN,hzA⟩,hcan⟩
theorem node1_ok {lv:Value} (hT:Tab G) :
  Ba prog 105 [.agg #[Vi 1,Bb 0,Bb 0,Bb 0,Bb 0,Vi 0,Vi 0,Vi 0,Vi 0],lv] G [] fun r G' H'=>H'=[]∧∃ D vd,r=.tuple #[vd,Vi 0]∧Hm G' vd D∧kX false D:=by
 refine Ba.of_T [(0,_),(1,_)] func105 rfl ntmps105 sM rfl fun w0 hs=>?_
 have hT0:=hT
 refine Wt 2 [] hs rfl<|O_s (Sb hs rfl fun b2 _ hs=>O_s (Sa hs zeroValue37 rfl fun b4 _ hs=>Wp 17 [0,0,1,0,0] hs rfl<|O_s (Sp (none7_ok hT) hs rfl fun v1 G' _ hR hG10 hs=>?_)))
 obtain ⟨D,vd,rfl,hz,hcnz⟩:=hR
 obtain ⟨zc,zn,za,rfl,hzC,hzN,hzA⟩:=hz
 obtain ⟨Cz,cz,rfl⟩:=Bi.slice hzC
 obtain ⟨Nz,nz,rfl⟩:=Bi.slice hzN
 obtain ⟨Az,az,rfl,_⟩:=id hzA
 refine Wp 2 [] hs rfl<|O_n (Sg hs rfl (rfl) fun _ hs=>Wp 2 [0] hs rfl<|As ?_)
 have hr:=hs
 refine By (vs:=[_,_]) results105 rfl ⟨Bq 0 hr isAgg37 sizeOf37 rfl (cs:=[_,_,_]) rfl rfl,rfl,trivial⟩ ?_
 try dsimp only [tup]
 exact hs.q ⟨D,_,rfl,⟨_,_,_,rfl,hzC,hzN,hzA⟩,hcnz⟩
theorem node7_ok {bl:Nat} {Ac An Aa:Option Addr} {cc cn ca:Nat} {d:Cy} (hC0:Hl G (.slice Ac d.cls.length cc) d.cls) (hN:LN G (.slice An d.next.length cn) d.next) (hA:Dt G (.slice Aa d.acc.length ca) d.acc) (hT:Tab G) (hc0:kX false d) :
  Ba prog 105 [.agg #[Vi 7,Bb 0,Bb 0,Bb 0,Bb 0,Vi 0,Vi 0,Vi 0,Vi 0],Vs bl 2 2] G [.blk bl 37 [.slice Ac d.cls.length cc,.slice An d.next.length cn,.slice Aa d.acc.length ca,Vn,Vn,Vn]] fun r G' H'=>H'=[.blk bl 37 [.slice Ac d.cls.length cc,.slice An d.next.length cn,.slice Aa d.acc.length ca,Vn,Vn,Vn]]∧∃ D vd,r=.tuple #[vd,Vi 0]∧Hm G' vd D∧kX true D:=by
 refine Ba.of_T [(0,_),(1,_)] func105 rfl ntmps105 sM rfl fun w0 hs=>?_
 have hC00:=hC0
 have hN0:=hN
 have hA0:=hA
 have hT0:=hT
 refine Wt 2 [] hs rfl<|O_s (Sb hs rfl fun b2 _ hs=>O_s (Sa hs zeroValue37 rfl fun b4 _ hs=>Wp 56 [0,0,1,0,0,0,0,0,0,0,4,1,2,4,70,5,1] hs rfl<|Zy hs (Si 0 underlying171 sizeOf37 rfl rfl rfl dC (m:=0) rfl<|Wp 1 [2] hs rfl<|O_s (Sp (rS ⟨_,_,_,rfl,hC0,hN,hA⟩ hc0.1.ok (Aai hc0.2.1 dC) hT) hs rfl fun v1 G' _ hR hG77 hs=>?_))))
 obtain ⟨D,vd,rfl,hz,hzc,hzn,hzl⟩:=hR
 obtain ⟨zc,zn,za,rfl,hzC,hzN,hzA⟩:=hz
 obtain ⟨Cz,cz,rfl⟩:=Bi.slice hzC
 obtain ⟨Nz,nz,rfl⟩:=Bi.slice hzN
 obtain ⟨Az,az,rfl,_⟩:=id hzA
 refine Wp 2 [] hs rfl<|O_n (Sg hs rfl (rfl) fun _ hs=>Wp 2 [0] hs rfl<|As ?_)
 have hs:=hs.f2
 have hr:=hs
 refine By (vs:=[_,_]) results105 rfl ⟨Bq 1 hr isAgg37 sizeOf37 rfl (cs:=[_,_,_]) rfl rfl,rfl,trivial⟩ ?_
 try dsimp only [tup]
 exact ⟨_,_,hs.wk [_],rfl,D,_,rfl,⟨_,_,_,rfl,hzC,hzN,hzA⟩,hzc,Aai hzn hc0.2.1,fun u=>by rw [hzl,hc0.2.2];rfl⟩
theorem vD {v:Value} (hr:Rx G v noneX) (hT:Tab G) :
  Ba prog 48 [v] G [] fun r G' H'=>H'=[]∧∃ D vd,r=.tuple #[vd,Vi 0]∧Hm G' vd D∧kX true D:=by
 obtain ⟨Ar,cr,rfl⟩:∃ A c,v=.slice A 2 c:=Bi.slice hr
 change Rx _ (.slice Ar 2 cr) _ at hr
 refine Ba.of_T [(0,_)] func48 rfl ntmps48 sM rfl fun w0 hs=>?_
 have hr0:=hr
 have hT0:=hT
 refine Wt 2 [] hs rfl<|O_s (Sa hs zeroValue37 rfl fun b2 _ hs=>Wp 6 [0] hs rfl<|O_s (Sc (rxv_ok hr (show 2≤1000000000 by decide)) hs rfl fun v1 G' H' _ hR hG11 hs=>?_))
 obtain ⟨rfl,rfl⟩:=hR
 replace hs:=hs.n rfl
 rw [vC]
 refine Wp 13 [0,0] hs rfl<|O_s (S_makeB (n:=2) hs underlying171 TI37 rfl rfl dC dC (cs:=[Vn,Vn,Vn,Vn,Vn,Vn]) kR fun b18 _ hs =>Wp 9 [0,0] hs rfl<|Kd (fB 3 (L:=[(2,_),(5,_),(19,_),(20,_),(21,_)]) ⟨rfl,rfl,rfl,rfl,rfl,trivial⟩ (Yz<|Wt 12 [0] hs rfl ?_)))
 replace hr:=hr.mono hG11
 refine Zy hs (Ca hr 0 underlying90 sizeOf88 rfl rfl rfl (by show _<2;decide) fun p24 c24 hp24 hc24 hR24 =>Zy hs (Db (vs:=[Vi 1,Bb 0,Bb 0,Bb 0,Bb 0,Vi 0,Vi 0,Vi 0,Vi 0]) isAgg88 sizeOf88 rfl (by have h:=hp24;rw [hR24.1] at h;exact h) rfl<|O_s (Sa hs zeroValue88 rfl fun b7 _ hs=>Wp 1 [] hs rfl<|O_n (Lm hs sizeOf88 rfl rfl (vs:=[_,_,_,_,_,_,_,_,_]) rfl (rfl) sM (cs':=[_,_,_,_,_,_,_,_,_]) rfl fun _ hs =>Wp 5 [0,0] hs rfl ?_))))
 replace hT:=hT.mono hG11
 refine O_s (Sc (node1_ok hT) hs rfl fun v2 G' H' _ hR hG29 hs=>?_)
 obtain ⟨rfl,D,vd,rfl,hk,hcnk⟩:=hR
 replace hs:=hs.n rfl
 obtain ⟨kc,kn,ka,rfl,hkC,hkN,hkA⟩:=hk
 obtain ⟨Ck,ck,rfl⟩:=Bi.slice hkC
 obtain ⟨Nk,nk,rfl⟩:=Bi.slice hkN
 obtain ⟨Ak,ak,rfl,_⟩:=id hkA
 refine Wp 3 [] hs rfl<|O_s (Sa hs zeroValue37 rfl fun b8 _ hs=>O_n (Lm hs sizeOf37 rfl rfl (vs:=[_,_,_]) rfl (rfl) sM (cs':=[_,_,_]) rfl fun _ hs =>Wp 14 [0,0,0] hs rfl<|Zy hs (Si 0 underlying171 sizeOf37 rfl rfl rfl dC (m:=0) rfl<|O_n (Lm hs.f2 sizeOf37 rfl rfl (vs:=[_,_,_]) rfl (rfl) sM (cs':=[_,_,_,_,_,_]) rfl fun _ hs =>Wp 2 [5,2,5,19,20,21] hs rfl<|Zy hs (Kn (c:=(1)) rfl rfl dC dC<|Wp 1 [] hs rfl<|Cr ⟨[(2,_),(5,_),(19,_),(20,_),(21,_)],⟨rfl,rfl,rfl,rfl,rfl,trivial⟩,Yz ?_⟩)))))
 refine Wt 12 [0] hs rfl ?_
 replace hr:=hr.mono hG29
 refine Zy hs (Ca hr 1 underlying90 sizeOf88 rfl rfl rfl (by show _<2;decide) fun p24 c24 hp24 hc24 hR24 =>Zy hs (Db (vs:=[Vi 7,Bb 0,Bb 0,Bb 0,Bb 0,Vi 0,Vi 0,Vi 0,Vi 0]) isAgg88 sizeOf88 rfl (by have h:=hp24;rw [hR24.1] at h;exact h) rfl<|O_s (Sa hs zeroValue88 rfl fun b7 _ hs=>Wp 1 [] hs rfl<|O_n (Lm hs sizeOf88 rfl rfl (vs:=[_,_,_,_,_,_,_,_,_]) rfl (rfl) sM (cs':=[_,_,_,_,_,_,_,_,_]) rfl fun _ hs =>Wp 5 [0,0] hs rfl ?_))))
 have hs:=hs.f1
 replace hT:=hT.mono hG29
 refine O_s (Sc (node7_ok hkC hkN hkA hT hcnk) hs rfl fun v3 G' H' _ hR hG29 hs=>?_)
 obtain ⟨rfl,D3,vd,rfl,hz,hcnz⟩:=hR
 replace hs:=hs.n rfl
 obtain ⟨zc,zn,za,rfl,hzC,hzN,hzA⟩:=hz
 obtain ⟨Cz,cz,rfl⟩:=Bi.slice hzC
 obtain ⟨Nz,nz,rfl⟩:=Bi.slice hzN
 obtain ⟨Az,az,rfl,_⟩:=id hzA
 refine Wp 3 [] hs rfl<|O_s (Sa hs zeroValue37 rfl fun b8 _ hs=>O_n (Lm hs sizeOf37 rfl rfl (vs:=[_,_,_]) rfl (rfl) sM (cs':=[_,_,_]) rfl fun _ hs =>Wp 14 [0,0,0] hs rfl<|Zy hs (Si 1 underlying171 sizeOf37 rfl rfl rfl dC (m:=3) rfl<|O_n (Lm hs.f1 sizeOf37 rfl rfl (vs:=[_,_,_]) rfl (rfl) sM (cs':=[_,_,_,_,_,_]) rfl fun _ hs =>Wp 2 [5,2,5,19,20,21] hs rfl<|Zy hs (Kn (c:=(2)) rfl rfl dC dC<|Wp 1 [] hs rfl<|Cr ⟨[(2,_),(5,_),(19,_),(20,_),(21,_)],⟨rfl,rfl,rfl,rfl,rfl,trivial⟩,Yz ?_⟩)))))
 refine Wt 7 [0] hs rfl<|Wu 5 [] hs rfl<|Zy hs (Ll (c:=(1)) rfl rfl dC dC<|Zy hs (Si 1 underlying171 sizeOf37 rfl rfl rfl dC (m:=3) rfl<|Wp 1 [0] hs rfl<|O_n (Lm hs.f5 sizeOf37 rfl rfl (vs:=[_,_,_]) rfl (rfl) sM (cs':=[_,_,_]) rfl fun _ hs =>Wp 2 [0] hs rfl<|As ?_)))
 replace hr:=hr.mono hG29
 have hr:=hs
 refine By (vs:=[_,_]) results48 rfl ⟨Bq 0 hr isAgg37 sizeOf37 rfl (cs:=[_,_,_]) rfl rfl,rfl,trivial⟩ ?_
 try dsimp only [tup]
 exact ⟨_,[],hs.done,rfl,D3,_,rfl,⟨_,_,_,rfl,hzC,hzN,hzA⟩,hcnz⟩
theorem rx_none {v:Value} (h:Sl G v 9 2 (dW ⟨1,[0,0,0,0],0,0,0,0⟩++dW ⟨7,[0,0,0,0],0,0,0,0⟩)):Rx G v noneX :=
  Bi.ofSl (cs:=[dW ⟨1,[0,0,0,0],0,0,0,0⟩,dW ⟨7,[0,0,0,0],0,0,0,0⟩]) h sM rfl ⟨⟨rfl,rfl,by decide⟩,⟨rfl,rfl,by decide⟩,trivial⟩ (by intro c hc;simp at hc;rcases hc with rfl | rfl<;>rfl)
theorem dom7_ok {v:Value} {t:Tr} (ht:Mp G v t) (htok:Cn7.TrOk t) (hT:Tab G) :
  Ba prog 17 [v] G [] fun r G' H'=>H'=[]∧∃ all,kX true all∧∃ R,nJ t all=some R∧DE G' r R:=by
 obtain ⟨v1,v2,v3,v4,rfl,hTc,hTm,hTf,hTe⟩:=ht
 obtain ⟨A1,c1,rfl⟩:=hTc.slice
 obtain ⟨A2,c2,rfl⟩:=hTm.slice
 obtain ⟨A3,c3,rfl,_⟩:=id hTf
 obtain ⟨A4,c4,rfl⟩:=Eg hTe
 refine Ba.of_T [(0,_)] func17 rfl ntmps17 sM rfl fun w0 hs=>?_
 have hTc0:=hTc
 have hTm0:=hTm
 have hTf0:=hTf
 have hTe0:=hTe
 have hT0:=hT
 refine Wt 2 [] hs rfl<|O_s (Sb hs rfl fun b1 _ hs=>O_s (Sa hs zeroValue37 rfl fun b2 _ hs=>Wp 4 [0] hs rfl<|Zy hs (Ce zeroValue88 rfl PL88 rfl (cs:=[_,_,_,_,_,_,_,_,_]) rfl<|Zy hs (Ce zeroValue88 rfl PL88 rfl (cs:=[_,_,_,_,_,_,_,_,_]) rfl<|O_s (Se hs zeroValue88 rfl fun v1 _ hs _=>?_)))))
 have hsN:=hs.fixRow noM
 clear hs
 obtain ⟨_,hG9,hl9,hs⟩:=hsN
 have hrx:=rx_none hl9
 replace hT:=hT.mono hG9
 refine O_s (Sp (vD hrx hT) hs rfl fun v2 G' _ hR hG10 hs=>?_)
 obtain ⟨D,vd,rfl,hz,hcan⟩:=hR
 obtain ⟨zc,zn,za,rfl,hzC,hzN,hzA⟩:=hz
 obtain ⟨Cz,cz,rfl⟩:=Bi.slice hzC
 obtain ⟨Nz,nz,rfl⟩:=Bi.slice hzN
 obtain ⟨Az,az,rfl,_⟩:=id hzA
 refine Wp 3 [] hs rfl<|O_s (Sa hs zeroValue37 rfl fun b4 _ hs=>O_n (Sg hs rfl (rfl) fun _ hs=>Wp 14 [0,0,2,0] hs rfl ?_))
 have hGz:=hG9.trans hG10
 replace hTc:=hTc.mono hGz
 replace hTm:=hTm.mono hGz
 replace hTf:=hTf.mono hGz
 replace hTe:=hTe.mono hGz
 replace hT:=hT.mono hG10
 refine O_s (Sp (gJ ⟨_,_,_,_,rfl,hTc,hTm,hTf,hTe⟩ ⟨_,_,_,rfl,hzC,hzN,hzA⟩ htok hcan.1.ok (Aai hcan.2.1 dC) hT) hs rfl fun v3 G' _ hR hG19 hs=>?_)
 obtain ⟨R,hR,hde19⟩:=hR
 obtain ⟨vd19,hre19,ea19,en19,ec19,fa19,fn19,fc19,ga19,gn19,gc19,hve19⟩:=hde19.tup
 subst hve19
 subst hre19
 refine Wp 2 [] hs rfl<|O_n (Sg hs.f1 rfl (rfl) fun _ hs=>Wp 2 [2,2,3] hs rfl<|As ?_)
 have hr:=hs
 refine By (vs:=[_,_]) results17 rfl ⟨Bq 0 hr isAgg37 sizeOf37 rfl (cs:=[_,_,_]) rfl rfl,rfl,trivial⟩ ?_
 try dsimp only [tup]
 exact hs.q ⟨D,hcan,R,hR,hde19⟩
theorem gN:places prog 76=some [(0,1),(1,1)]:=by kernel_rfl
theorem TI76:TI prog 76 (.agg #[Vf,.int .u8 0]) 2 2:=TI.of kR
def pcC (p:Pc):List Value:=[.bool p.copy,.int .u8 (p.b.toNat:Int)]
def sA (l:List Pc):List Value:=(l.map pcC).flatten
theorem bQ (l:List Pc) (p:Pc):sA (l++[p])=sA l++pcC p:=by unfold sA;simp
theorem Vk {v:Value} {l:List Pc} (h:Sl G v 2 l.length (sA l)):mJ G v l:=by
  refine Bi.ofSl (cs:=l.map pcC) h rfl rfl ?_ (fun c hc=>by obtain ⟨r,_,rfl⟩:=Aaf.1 hc;rfl)
  clear h
  induction l with
  | nil=>trivial
  | cons r l ih=>exact ⟨rfl,ih⟩
theorem rdO_step {p x:Pc} {l:List Pc} {k:Nat} (h:k<l.length) (hx:l[k]=x):mG p (l.take (k+1))=mG p (l.take k)++[if x.copy=true∧p.copy=false then ⟨false,p.b⟩ else x]:=by
  unfold mG;rw [Hj h,AaU,hx];rfl
theorem sB {p:Pc} {l:List Pc}:(mG p l).length=l.length:=by unfold mG;rw [AaC]
theorem vE {u:Tr} {like:UInt8} {r:dR} {p:Pc} (h:r.stuck=true):Of u like r p=r:=by unfold Of;rw [if_pos h]
theorem rdP_neg {u:Tr} {like x:UInt8} {r:dR} {p:Pc} {mv:Mv} (h:r.stuck=false) (hx:x=uD like p) (hm:Dv u r.at_ x=mv) (h0:mv.to<0):Of u like r p=⟨r.at_,r.out,true⟩:=by
  subst hx hm;unfold Of;rw [if_neg Z51,if_pos h0]
theorem rdP_go {u:Tr} {like x:UInt8} {r:dR} {p:Pc} {mv:Mv} (h:r.stuck=false) (hx:x=uD like p) (hm:Dv u r.at_ x=mv) (h0:¬ mv.to<0):Of u like r p=⟨mv.to.toNat,r.out++mG p mv.out,false⟩:=by
  subst hx hm;unfold Of;rw [if_neg Z51,if_neg h0]
theorem oJ {a:Bool} {b:Int}:∀ y∈[Value.bool a,.int .u8 b],y.oneCell'=true:=by
  intro y hy;simp at hy;rcases hy with rfl | rfl<;>rfl
theorem kY {br c2:Nat} {A2:Option Addr} {u1 u3 u4 vo:Value} {u:Tr} {rd:dR} {p:Pc} {like:UInt8} (hTm:MM G (.slice A2 u.moves.length c2) u.moves) (hutok:Cn7.TrOk u) (hq:rd.at_<u.moves.length) (hol:rd.out.length≤1000000) :
  Ba prog 72 [.pointer (some ⟨br,0,none⟩),.agg #[.bool p.copy,.int .u8 (p.b.toNat:Int)],.int .u8 (like.toNat:Int)] G [.blk br 134 (Pd u1 (.slice A2 u.moves.length c2) u3 u4 (Cv u.cls) rd.at_ vo rd.stuck),.row 76 2 (vo) rd.out.length (sA rd.out)] fun r _ H'=>∃ vo',H'=[.blk br 134 (Pd u1 (.slice A2 u.moves.length c2) u3 u4 (Cv u.cls) (Of u like rd p).at_ vo' (Of u like rd p).stuck),.row 76 2 (vo') (Of u like rd p).out.length (sA (Of u like rd p).out)]:=by
 obtain ⟨cp,pb⟩:=p
 obtain ⟨sk,hsk⟩:∃ s,s=rd.stuck:=⟨_,rfl⟩
 rw [← hsk]
 refine Ba.of_T [(0,_),(1,_),(2,_)] func72 rfl ntmps72 sM rfl fun w0 hs=>?_
 have hTm0:=hTm
 have hM0:=hs.feetLt
 refine Wt 2 [] hs rfl<|O_s (Sb hs rfl fun b4 _ hs=>Wp 5 [0] hs rfl<|Zy hs (Ci rfl<|Wp 1 [262] hs rfl<|Zy hs (Ej 1 isAgg4 rfl rfl (Hi (j:=2) (Ch _))<|Wp 1 [0] hs rfl<|Fk rfl (fun hi12=>?_) (fun hi12=>?_))))
 ·
  subst hi12
  refine As ?_
  have hs:=hs.f2.f2
  refine By (vs:=[]) results72 rfl trivial ?_
  try dsimp only [tup]
  rw [vE hsk.symm,← hsk]
  exact ⟨_,_,hs.wk [_,_],_,rfl⟩
 subst hi12
 refine Wu 8 [0,0,0] hs rfl ?_
 have hs:=hs.f2.f2.f2
 obtain ⟨GpJif15,hGp⟩:=hs.name
 subst hGp
 have hTm_Jif15:=hTm
 have hlgJif15:=Cu.refl GpJif15
 refine Lo (fun E w=>∃ (x:UInt8) (G2:Ah),Cu GpJif15 G2∧x=uD like ⟨cp,pb⟩∧E=⟨[],[(0,.pointer (some ⟨br,0,none⟩)),(2,.int .u8 (x.toNat:Int)),(4,.pointer (some ⟨b4,0,none⟩))]⟩∧St ⟨w0,GpJif15,Bj [.blk br 134 (Pd u1 (.slice A2 u.moves.length c2) u3 u4 (Cv u.cls) rd.at_ vo false),.row 76 2 (vo) rd.out.length (sA rd.out)]⟩ G2 [.blk b4 76 [.bool cp,.int .u8 (pb.toNat:Int)],.blk br 134 (Pd u1 (.slice A2 u.moves.length c2) u3 u4 (Cv u.cls) rd.at_ vo false),.row 76 2 (vo) rd.out.length (sA rd.out)] w) ?_ ?_
 ·
  refine Fk rfl (fun hi15=>?_) (fun hi15=>?_)
  ·
   refine Wt 4 [1,0] hs rfl ?_
   have hs:=hs.f2.f2.f2
   exact Cr (⟨[(0,_),(2,_),(4,_)],⟨rfl,rfl,rfl,trivial⟩,⟨pb,_,hlgJif15,by unfold uD;rw [if_neg (by simpa using hi15)],rfl,hs⟩⟩)
  refine Og ?_
  have hs:=hs.f2.f2.f2
  exact ⟨[(0,_),(2,_),(4,_)],⟨rfl,rfl,rfl,trivial⟩,⟨like,_,hlgJif15,by unfold uD;rw [if_pos (by simpa using hi15)],rfl,hs⟩⟩
 clear hs
 intro D M L w hL hI
 obtain ⟨x,G2,hlgJif15,hx,hE,hs⟩:=hI
 cases hE
 refine Oh _ hL ?_
 have hTm:=hTm_Jif15.mono hlgJif15
 obtain ⟨rr,herr⟩:∃ q9,u.moves[rd.at_]'hq=q9:=⟨_,rfl⟩
 have hlrr:=hutok.row rr Z42
 obtain ⟨ci,hce⟩:∃ z,z=(Cv u.cls).getD x.toNat 0:=⟨_,rfl⟩
 have hci:ci<u.cls.length:=by rw [hce];exact hutok.cell x
 obtain ⟨mv,hmv⟩:∃ q9,rr[ci]'oM=q9:=⟨_,rfl⟩
 have hmF:Dv u rd.at_ x=mv:=by unfold Dv;rw [← hce,Cn7.gD hq,herr,Cn7.gD oM,hmv]
 have hmb:=hutok.mv hq x
 rw [hmF] at hmb
 refine Wt 1 [] hs rfl<|Bg [0,1,2,3,4,5,6,7,8,9,10,11,12,13,14,15,16,17,18,19] hs kR ?_
 replace hs:=hs.drew
 refine Xr [0] [] hs rfl<|Xt 1 hs rfl (Ci rfl<|Xr [2,3] [0,1] hs rfl<|Xt 4 hs rfl (Ej 1 isAgg29 rfl rfl (rfl)<|Xr [5] [] hs rfl<|Xt 6 hs rfl (Ci rfl<|Xr [7] [260] hs rfl<|Xt 8 hs rfl (Ej 1 isAgg3 rfl rfl ((Hi (j:=0) (Ch _)))<|Xt 9 hs rfl (Ca hTm rd.at_ underlying29 sizeOf71 rfl rfl rfl hq fun p27 cc27 hp27 hc27 hR27=>?_)))))
 rw [herr] at hR27
 obtain ⟨u27,rfl,hrr⟩:=hR27
 obtain ⟨A27,c27,rfl⟩:=hrr.slice
 refine Xt 10 hs rfl (Yg rfl (hp27 0 _ rfl)<|Xr [11,12] [] hs rfl<|Xt 13 hs rfl (Ci rfl<|Xr [14] [4] hs rfl<|Xt 15 hs rfl (Jh (m:=4+x.toNat) x.toNat underlying80 sizeOf3 rfl rfl rfl x.toNat_lt oM<|Xt 16 hs rfl (Ej 1 isAgg3 rfl rfl (show (Pd u1 (.slice A2 u.moves.length c2) u3 u4 (Cv u.cls) rd.at_ vo false)[4+x.toNat]?=some (Bl ci) from by rw [hce];exact zZ (Ch _) x.toNat_lt)<|Xt 17 hs rfl (Ca hrr ci underlying71 sizeOf74 rfl rfl rfl oM fun p35 cc35 hp35 hc35 hR35=>?_)))))
 rw [hmv] at hR35
 obtain ⟨u35,rfl,hpc⟩:=hR35
 obtain ⟨A35,c35,rfl⟩:=hpc.slice
 refine Xt 18 hs rfl (Db (vs:=[.int .i64 mv.to,.slice A35 mv.out.length c35]) isAgg74 sizeOf74 rfl hp35 hc35 ?_)
 have hle:=hs.le
 refine Xo 19 rfl (Sa hs zeroValue74 rfl fun b6 _ hs=>Ai hs hle (gLr _) (Aax _ _)<|Xn 20 rfl (Sg hs rfl (rfl) fun _ hs=>Xe (Zk [0,4,6] rfl<|Wu 6 [0,0] hs rfl<|Zy hs (Yc rfl (fun h40=>?_) fun h40=>?_))))
 ·
  refine Zy hs (Ci rfl<|Wp 1 [262] hs rfl<|O_n (Gc hs.f2 sizeOf4 rfl rfl rfl Z52 (cs':=(Pd u1 (.slice A2 u.moves.length c2) u3 u4 (Cv u.cls) rd.at_ vo true)) (Lu (j:=2) (Ch _)) fun _ hs =>Wp 4 [0] hs rfl<|Zy hs (Ci rfl<|Wp 1 [262] hs rfl<|Zy hs (Ej 0 isAgg4 rfl rfl (Hi (j:=2) (Ch _))<|Wp 2 [0] hs rfl<|As ?_))))
  have hs:=hs.f3.f1
  refine By (vs:=[]) results72 rfl trivial ?_
  try dsimp only [tup]
  rw [rdP_neg hsk.symm hx hmF oM]
  exact ⟨_,_,hs.wk [_,_],_,rfl⟩
 refine Zy hs (Ci rfl<|Wp 1 [262] hs rfl<|O_n (Gc hs.f2 sizeOf4 rfl rfl rfl Z52 (cs':=(Pd u1 (.slice A2 u.moves.length c2) u3 u4 (Cv u.cls) rd.at_ vo false)) (Lu (j:=2) (Ch _)) fun _ hs =>Wp 4 [0] hs rfl<|Zy hs (Ci rfl<|Wp 1 [262] hs rfl<|Zy hs (Ej 0 isAgg4 rfl rfl (Hi (j:=2) (Ch _))<|Wp 11 [0,1,1,0] hs rfl ?_))))
 have hs:=hs.f2.f2.f3.f3
 obtain ⟨Gp0,hGp⟩:=hs.name
 subst hGp
 have hTm_0:=hTm
 have hpc_0:=hpc
 refine Zl [0,4,6,48,49,50] (fun m E w=>∃ (k:Nat) (vo2:Value) (G2:Ah),Cu Gp0 G2∧k≤mv.out.length∧m=mv.out.length-k∧E=⟨[],[(0,.pointer (some ⟨br,0,none⟩)),(4,.pointer (some ⟨b4,0,none⟩)),(6,.pointer (some ⟨b6,0,none⟩)),(48,.slice A35 mv.out.length c35),(49,.int .i64 ((mv.out.length:Nat):Int)),(50,.int .i64 (k:Int))]⟩∧St ⟨w0,GpJif15,Bj [.blk br 134 (Pd u1 (.slice A2 u.moves.length c2) u3 u4 (Cv u.cls) rd.at_ vo false),.row 76 2 (vo) rd.out.length (sA rd.out)]⟩ G2 [.blk br 134 (Pd u1 (.slice A2 u.moves.length c2) u3 u4 (Cv u.cls) rd.at_ vo2 false),.row 76 2 (vo2) (rd.out++mG ⟨cp,pb⟩ (mv.out.take k)).length (sA (rd.out++mG ⟨cp,pb⟩ (mv.out.take k))),.blk b6 74 [.int .i64 mv.to,.slice A35 mv.out.length c35],.blk b4 76 [.bool cp,.int .u8 (pb.toNat:Int)]] w) rfl (⟨0,_,_,Cu.refl _,by omega,rfl,rfl,Bh hs (by rw [AcS,show mG ⟨cp,pb⟩ []=[] from rfl,AaX])⟩) fun m E w hI=>?_
 obtain ⟨k,vo2,G2,hlg0,hk9,rfl,rfl,hs⟩:=hI
 have hTm:=hTm_0.mono hlg0
 have hpc:=hpc_0.mono hlg0
 have hrol:(rd.out++mG ⟨cp,pb⟩ (mv.out.take k)).length=rd.out.length+k:=by rw [AaB,sB,Aag];omega
 refine Wt 2 [] hs rfl<|Zy hs (Yc rfl (fun h51=>?_) fun h51=>?_)
 ·
  refine Wp 8 [0] hs rfl<|Zy hs (Ca hpc k underlying72 sizeOf76 rfl rfl rfl oM fun p52 cc52 hp52 hc52 hR52=>?_)
  obtain ⟨⟨xc,xb⟩,hxe⟩:∃ z,mv.out[k]'oM=z:=⟨_,rfl⟩
  rw [hxe] at hR52
  obtain rfl:=hR52
  refine Zy hs (Db (vs:=[.bool xc,.int .u8 (xb.toNat:Int)]) isAgg76 sizeOf76 rfl hp52 hc52<|O_s (Sa hs zeroValue76 rfl fun b8 _ hs=>O_n (Sg hs rfl (rfl) fun _ hs=>Wp 6 [0,0,0] hs rfl ?_)))
  cases xc
  ·
   refine Wp 8 [0] hs rfl<|Bg [1,2,3,4,5,6] hs kR ?_
   replace hs:=hs.drew
   refine Qm 0 rfl kR rfl (Ok rfl<|Xr [1] [] hs rfl<|Xt 2 hs rfl (Ci rfl<|Xr [3] [261] hs rfl<|Xt 4 hs rfl (Ej 1 isAgg72 rfl rfl ((Hi (j:=1) (Ch _)))<|Xr [5] [0] hs rfl ?_)))
   have hle:=hs.le
   refine Xo 6 rfl (Cq hs hM0 underlying72 sizeOf76 zeroValue76 rfl rfl dC dC rfl (cs:=[_,_]) rfl rfl fun v1 _ _ hG70 hl70 hs=>?_)
   replace hlg0:=hlg0.mono hG70
   refine Ai hs hle hG70 (lSr _)<|Xa 7 rfl (Au hs.f2 underlying72 TI76 rfl dC rfl rfl (hl70) (oJ) oM oM fun v2 _ hs =>Xa 8 rfl (S_y hs rfl (Ci rfl<|Xa 9 rfl (S_y hs rfl (Yf 261 rfl<|Xn 10 rfl (Gc hs.f2 sizeOf72 rfl rfl (hs.f2.rowOne 1 rfl) Z52 (cs':=(Pd u1 (.slice A2 u.moves.length c2) u3 u4 (Cv u.cls) rd.at_ v2 false)) (Lu (j:=1) (Ch _)) fun _ hs =>Xe (Zk [0,4,6,48,49,50] rfl ?_)))))))
   refine Zr<|Zy hs (Ya (s:=((k+1:Nat):Int)) rfl<|Wp 1 [] hs rfl ?_)
   have hs:=hs.f4.f4.f3.f3
   have hpx:(if (⟨false,xb⟩:Pc).copy=true∧(⟨cp,pb⟩:Pc).copy=false then (⟨false,pb⟩:Pc) else ⟨false,xb⟩)=⟨false,xb⟩:=by simp
   refine Zx [0,4,6,48,49,50] rfl ⟨k+1,v2,_,hlg0,by omega,rfl,rfl,Bh (hs.wk [_,_,_,_]) Z18⟩
  refine Wp 6 [0,4,0] hs rfl<|Fk rfl (fun h60=>?_) (fun h60=>?_)
  ·
   refine Wu 3 [1,4] hs rfl<|Zy hs (Ce zeroValue76 rfl gN rfl (cs:=[_,_]) rfl<|O_n (Sg hs rfl (rfl) fun _ hs=>Wp 1 [0] hs rfl<|Bg [1,2,3,4,5,6] hs kR ?_))
   replace hs:=hs.drew
   refine Qm 0 rfl kR rfl (Ok rfl<|Xr [1] [] hs rfl<|Xt 2 hs rfl (Ci rfl<|Xr [3] [261] hs rfl<|Xt 4 hs rfl (Ej 1 isAgg72 rfl rfl ((Hi (j:=1) (Ch _)))<|Xr [5] [0] hs rfl ?_)))
   have hle:=hs.le
   refine Xo 6 rfl (Cq hs hM0 underlying72 sizeOf76 zeroValue76 rfl rfl dC dC rfl (cs:=[_,_]) rfl rfl fun v3 _ _ hG70 hl70 hs=>?_)
   replace hlg0:=hlg0.mono hG70
   refine Ai hs hle hG70 (lSr _)<|Xa 7 rfl (Au hs.f2 underlying72 TI76 rfl dC rfl rfl (hl70) (oJ) oM oM fun v4 _ hs =>Xa 8 rfl (S_y hs rfl (Ci rfl<|Xa 9 rfl (S_y hs rfl (Yf 261 rfl<|Xn 10 rfl (Gc hs.f2 sizeOf72 rfl rfl (hs.f2.rowOne 1 rfl) Z52 (cs':=(Pd u1 (.slice A2 u.moves.length c2) u3 u4 (Cv u.cls) rd.at_ v4 false)) (Lu (j:=1) (Ch _)) fun _ hs =>Xe (Zk [0,4,6,48,49,50] rfl ?_)))))))
   refine Zr<|Zy hs (Ya (s:=((k+1:Nat):Int)) rfl<|Wp 1 [] hs rfl ?_)
   have hs:=hs.f4.f4.f3.f3
   have hpx:(if (⟨true,xb⟩:Pc).copy=true∧(⟨cp,pb⟩:Pc).copy=false then (⟨false,pb⟩:Pc) else ⟨true,xb⟩)=⟨false,pb⟩:=by simp [show cp=false by simpa using h60]
   refine Zx [0,4,6,48,49,50] rfl ⟨k+1,v4,_,hlg0,by omega,rfl,rfl,Bh (hs.wk [_,_,_,_]) Z18⟩
  refine Og<|Bg [1,2,3,4,5,6] hs kR ?_
  replace hs:=hs.drew
  refine Qm 0 rfl kR rfl (Ok rfl<|Xr [1] [] hs rfl<|Xt 2 hs rfl (Ci rfl<|Xr [3] [261] hs rfl<|Xt 4 hs rfl (Ej 1 isAgg72 rfl rfl ((Hi (j:=1) (Ch _)))<|Xr [5] [0] hs rfl ?_)))
  have hle:=hs.le
  refine Xo 6 rfl (Cq hs hM0 underlying72 sizeOf76 zeroValue76 rfl rfl dC dC rfl (cs:=[_,_]) rfl rfl fun v5 _ _ hG70 hl70 hs=>?_)
  replace hlg0:=hlg0.mono hG70
  refine Ai hs hle hG70 (lSr _)<|Xa 7 rfl (Au hs.f2 underlying72 TI76 rfl dC rfl rfl (hl70) (oJ) oM oM fun v6 _ hs =>Xa 8 rfl (S_y hs rfl (Ci rfl<|Xa 9 rfl (S_y hs rfl (Yf 261 rfl<|Xn 10 rfl (Gc hs.f2 sizeOf72 rfl rfl (hs.f2.rowOne 1 rfl) Z52 (cs':=(Pd u1 (.slice A2 u.moves.length c2) u3 u4 (Cv u.cls) rd.at_ v6 false)) (Lu (j:=1) (Ch _)) fun _ hs =>Xe (Zk [0,4,6,48,49,50] rfl ?_)))))))
  refine Zr<|Zy hs (Ya (s:=((k+1:Nat):Int)) rfl<|Wp 1 [] hs rfl ?_)
  have hs:=hs.f4.f4.f3.f3
  have hpx:(if (⟨true,xb⟩:Pc).copy=true∧(⟨cp,pb⟩:Pc).copy=false then (⟨false,pb⟩:Pc) else ⟨true,xb⟩)=⟨true,xb⟩:=by simp [show cp=true by simpa using h60]
  refine Zx [0,4,6,48,49,50] rfl ⟨k+1,v6,_,hlg0,by omega,rfl,rfl,Bh (hs.wk [_,_,_,_]) Z18⟩
 refine Wp 4 [0] hs rfl<|Wu 4 [0,2] hs rfl<|Zy hs (Ci rfl<|Wp 1 [260] hs rfl<|O_n (Gc hs sizeOf3 rfl rfl rfl Z52 (cs':=(Pd u1 (.slice A2 u.moves.length c2) u3 u4 (Cv u.cls) mv.to.toNat vo2 false)) (by rw [show Value.int .i64 mv.to=Bl mv.to.toNat from by show _=Value.int .i64 ((mv.to.toNat:Nat):Int);rw [AcO oM]];exact Lu (j:=0) (Ch _)) fun _ hs=>?_))
 have hs:=hs.f1.f1
 refine Cr (Pl (vs:=[]) results72 rfl trivial ?_)
 try dsimp only [tup]
 obtain rfl:k=mv.out.length:=by omega
 rw [Aaj] at hs
 rw [rdP_go hsk.symm hx hmF oM]
 exact ⟨_,_,hs.wk [_,_],_,rfl⟩
theorem writr_ok {v:Value} {l:List Pc} {b:UInt8} (hl:mJ G v l) (hn:l.length≤1000000000) :
  Ba prog 46 [v,.int .u8 (b.toNat:Int)] G [] fun r _ H'=>H'=[.row 5 1 r (Gt l b).length ((Gt l b).map Dy)]:=by
 obtain ⟨A,cap,rfl⟩:=hl.slice
 refine Ba.of_T [(0,_),(1,_)] func46 rfl ntmps46 sM rfl fun w0 hs=>?_
 have hl0:=hl
 refine Wt 8 [0] hs rfl<|O_s (Dw (n:=l.length) (m:=l.length) hs underlying22 cK rfl rfl rfl oM oM oM fun b10 _ hs =>Wp 9 [0,0] hs rfl ?_)
 rw [Tj,← kN l b] at hs
 obtain ⟨Gp0,hGp⟩:=hs.name
 subst hGp
 have hl_0:=hl
 refine Zl [1,5,11,12,13] (fun m E w=>∃ (k:Nat) (G2:Ah),Cu Gp0 G2∧k≤l.length∧m=l.length-k∧E=⟨[],[(1,.int .u8 (b.toNat:Int)),(5,Vs b10 l.length l.length),(11,(.slice A l.length cap)),(12,Vi ((l.length:Nat):Int)),(13,Vi (k:Int))]⟩∧St ⟨w0,Gp0,Bj []⟩ G2 [.row 5 1 (Vs b10 l.length l.length) l.length ((zR l b k).map Dy)] w) rfl (⟨0,_,Cu.refl _,by omega,rfl,rfl,hs⟩) fun m E w hI=>?_
 obtain ⟨k,G2,hlg0,hk,rfl,rfl,hs⟩:=hI
 have hl:=hl_0.mono hlg0
 refine Wt 2 [] hs rfl<|Zy hs (Yc rfl (fun h14=>?_) fun h14=>?_)
 ·
  refine Wp 9 [0] hs rfl<|Zy hs (Ca hl k underlying72 sizeOf76 rfl rfl rfl oM fun p16 c16 hp16 hc16 hR16=>?_)
  obtain ⟨p,hpe⟩:∃ q,q=l[k]'oM:=⟨_,rfl⟩
  rw [← hpe] at hR16
  obtain rfl:c16=[.bool p.copy,.int .u8 (p.b.toNat:Int)]:=hR16
  refine Zy hs (Db (vs:=[.bool p.copy,.int .u8 (p.b.toNat:Int)]) isAgg76 sizeOf76 rfl hp16 hc16<|O_s (Sa hs zeroValue76 rfl fun b7 _ hs=>Wp 1 [] hs rfl<|O_n (Sg hs rfl (rfl) fun _ hs=>Wp 7 [0,1,0] hs rfl<|Zy hs (Be (k) underlying22 sizeOf5 rfl rfl rfl oM<|O_n (Bz hs.f1 sizeOf5 rfl rfl rfl oM fun _ hs =>Wp 6 [0,0,1,0] hs rfl<|Fk rfl (fun hq=>?_) (fun hq=>?_))))))
  ·
   refine Wu 4 [] hs rfl<|Zy hs (Be (k) underlying22 sizeOf5 rfl rfl rfl oM<|O_n (Bz hs sizeOf5 rfl rfl rfl oM fun _ hs =>Wp 2 [0] hs rfl<|Zy hs (Ya (s:=((k+1:Nat):Int)) rfl<|Wp 1 [] hs rfl<|Zx [1,5,11,12,13] rfl ⟨k+1,_,hlg0,by omega,rfl,rfl,by rw [← bG (y:=p.b) (show k<l.length by omega) (by rw [← hpe,if_pos hq]),Aad,Aad];exact hs.wk [_]⟩)))
  refine Wu 2 [] hs rfl<|Zy hs (Ya (s:=((k+1:Nat):Int)) rfl<|Wp 1 [] hs rfl<|Zx [1,5,11,12,13] rfl ⟨k+1,_,hlg0,by omega,rfl,rfl,by rw [← eJ (show k<l.length by omega) (by rw [← hpe,if_neg (by rw [hq];exact Abj)]),Aad];exact hs.wk [_]⟩)
 refine Wp 4 [0] hs rfl<|Wu 5 [0] hs rfl<|As<|Zz results46 rfl ?_
 obtain rfl:k=l.length:=by omega
 rw [kO] at hs
 exact ⟨_,_,Bh (hs.wk [_]) (by rw [Lt]),rfl⟩
theorem Xv {place:Nat→Option (Nat×Nat)} {cs cs':List Value} {i off size:Nat} {v:Value} {r:List (Nat×Value)} (hp:place i=some (off,size)) (hl:v.cells.toList.length=size) (hb:off+size≤cs.length) (hput:Qo cs off v.cells.toList=cs'):Gd place cs ((i,v)::r)=Gd place cs' r:=by
  subst hput
  have hb1:Nat.beq v.cells.toList.length size=true:=by rw [hl];exact Nat.beq_refl _
  have hb2:Nat.ble (off+v.cells.toList.length) cs.length=true:=by rw [hl];exact Nat.ble_eq_true_of_le hb
  rw [Gd,hp]
  simp only [hb1,hb2,Bool.and_true,cond_true]
theorem sC {u1 u2 u3 u4:Value} {cell:List Nat} {q:Nat} {r:List (Nat×Value)} (h:cell.length=256):Gd (([(0,4),(4,256),(260,1),(261,1),(262,1)]:List (Nat×Nat))[·]?) (Pd (Vn) (Vn) (Vn) (Vn) (List.replicate 256 0) 0 (Vn) false) ((0,.agg #[u1,u2,u3,u4])::(1,.agg (cell.map Bx).toArray)::(2,Bl q)::r)=Gd (([(0,4),(4,256),(260,1),(261,1),(262,1)]:List (Nat×Nat))[·]?) (Pd u1 u2 u3 u4 cell q (Vn) false) r:=by
  have hz:(List.replicate 256 0).length=256:=AaJ
  rw [Xv (cs':=Pd u1 u2 u3 u4 (List.replicate 256 0) 0 (Vn) false) rfl rfl (by rw [Np hz];exact AcA rfl) rfl]
  have e:=Go.Ex.putL_pre (cell.map Bx) ((List.replicate 256 0).map Bx) [u1,u2,u3,u4] [Bl 0,Vn,Vf] (by rw [AaC,AaC,h,hz])
  rw [Xv (cs':=Pd u1 u2 u3 u4 cell 0 (Vn) false) rfl (by show (cell.map Bx).length=256;rw [AaC,h]) (by rw [Np hz];exact AcA rfl) e]
  exact Xv rfl rfl (by rw [Np h];exact AcA rfl) (Lu (j:=0) h)
theorem fill263s {u1 u2 u3 u4:Value} {cell:List Nat} {q:Nat} (h:cell.length=256):Gd (([(0,4),(4,256),(260,1),(261,1),(262,1)]:List (Nat×Nat))[·]?) (Pd (Vn) (Vn) (Vn) (Vn) (List.replicate 256 0) 0 (Vn) false) [(0,.agg #[u1,u2,u3,u4]),(1,.agg (cell.map Bx).toArray),(2,Bl q)]=some (Pd u1 u2 u3 u4 cell q (Vn) false):=sC h
theorem fill263k {u1 u2 u3 u4:Value} {cell:List Nat} {q:Nat} {sk:Bool} (h:cell.length=256):Gd (([(0,4),(4,256),(260,1),(261,1),(262,1)]:List (Nat×Nat))[·]?) (Pd (Vn) (Vn) (Vn) (Vn) (List.replicate 256 0) 0 (Vn) false) [(0,.agg #[u1,u2,u3,u4]),(1,.agg (cell.map Bx).toArray),(2,Bl q),(4,.bool sk)]=some (Pd u1 u2 u3 u4 cell q (Vn) sk) :=
  (sC h).trans ((Xv (cs:=Pd u1 u2 u3 u4 cell q (Vn) false) (cs':=Pd u1 u2 u3 u4 cell q (Vn) sk) (off:=262) (size:=1) (v:=.bool sk) rfl rfl (by rw [Np h];exact AcA rfl) (show (Pd u1 u2 u3 u4 cell q (Vn) false).set 262 (.bool sk)=_ from Lu (j:=2) h)).trans rfl)
theorem oK {u:Tr} (hu:Cn7.TrOk u) {like:UInt8}:∀ (l:List Pc) {r:dR},r.at_<u.moves.length→(l.foldl (Of u like) r).out.length≤r.out.length+8*l.length
  | [],r,_=>AaR _
  | p::l,r,h=>by
    have h1:(Of u like r p).at_<u.moves.length:=Cn7.rd_lt hu [p] h
    have h2:(Of u like r p).out.length≤r.out.length+8:=by
      unfold Of;split
      · omega
      · split
        · exact Nat.le_add_right _ _
        · show (r.out++mG p _).length≤_
          rw [AaB,sB]
          have:=(hu.mv h (uD like p)).2.2
          omega
    have:=oK hu (like:=like) l h1
    rw [Aao,AaZ];omega
theorem vF {w:List UInt8} {k:Nat} {x:UInt8} {u:Tr} {r:dR} (h:k<w.length) (hx:w[k]=x):(lits (w.take (k+1))).foldl (Of u 0) r=Of u 0 ((lits (w.take k)).foldl (Of u 0) r) ⟨false,x⟩:=by
  unfold lits;rw [Hj h,AaU,Aap,hx];rfl
theorem lits_len (w:List UInt8):(lits w).length=w.length:=by unfold lits;rw [AaC]
theorem gO {t u:Tr} {s:Nat×Nat} {rd:dR} (hr:cT t u s=rd) (h:t.final.getD s.1 false=false∨rd.stuck=true∨u.final.getD rd.at_ false=false):Iu t u s=none:=by
  unfold Iu;rw [hr]
  refine if_neg fun ⟨h1,h2,h3⟩=>?_
  rcases h with h | h | h
  · rw [h] at h1;cases h1
  · rw [h] at h2;cases h2
  · rw [h] at h3;cases h3
theorem endF_yes {t u:Tr} {s:Nat×Nat} {rd:dR} (hr:cT t u s=rd) (h1:t.final.getD s.1 false=true) (h2:rd.stuck=false) (h3:u.final.getD rd.at_ false=true):Iu t u s=some (Gt rd.out 0++u.ends.getD rd.at_ []):=by
  unfold Iu;rw [hr];exact if_pos ⟨h1,h2,h3⟩
theorem end7_ok {v v2:Value} {t u:Tr} {p q:Nat} (ht:Mp G v t) (hu:Mp G v2 u) (htok:Cn7.TrOk t) (hutok:Cn7.TrOk u) (hp:p<t.moves.length) (hq:q<u.moves.length) (hT:Tab G) :
  Ba prog 73 [v,v2,Vi (p:Int),Vi (q:Int)] G [] fun r G' H'=>H'=[]∧∃ w,r=.tuple #[w,.bool (Iu t u (p,q)).isSome]∧Bd G' w ((Iu t u (p,q)).getD []):=by
 obtain ⟨v1,v2,v3,v4,rfl,hTc,hTm,hTf,hTe⟩:=ht
 obtain ⟨A1,c1,rfl⟩:=hTc.slice
 obtain ⟨A2,c2,rfl⟩:=hTm.slice
 obtain ⟨A3,c3,rfl,_⟩:=id hTf
 obtain ⟨A4,c4,rfl⟩:=Eg hTe
 obtain ⟨v5,v6,v7,v8,rfl,hUc,hUm,hUf,hUe⟩:=hu
 obtain ⟨A5,c5,rfl⟩:=hUc.slice
 obtain ⟨A6,c6,rfl⟩:=hUm.slice
 obtain ⟨A7,c7,rfl,_⟩:=id hUf
 obtain ⟨A8,c8,rfl⟩:=Eg hUe
 have hc1:u.cls.length≤256:=hutok.part.k2
 have hfl:=htok.fl
 have hel:=htok.el
 have hful:=hutok.fl
 have huel:=hutok.el
 obtain ⟨ee,hee⟩:∃ z,t.ends[p]'oM=z:=⟨_,rfl⟩
 have hen:=(htok.en p hp).1
 rw [Cn7.gD (show p<t.ends.length by omega),hee] at hen
 refine Ba.of_T [(0,_),(1,_),(2,_),(3,_)] func73 rfl ntmps73 sM rfl fun w0 hs=>?_
 have hTf0:=hTf
 have hTe0:=hTe
 have hUc0:=hUc
 have hUm0:=hUm
 have hUf0:=hUf
 have hUe0:=hUe
 have hT0:=hT
 refine Wt 2 [] hs rfl<|O_s (Sb hs rfl fun b4 _ hs=>O_s (Sb hs rfl fun b5 _ hs=>Wp 4 [0] hs rfl<|Bg [0,1,2,3,4,5,6,7] hs kR ?_))
 replace hs:=hs.drew
 refine Xr [0,1,2,4] [0,0,0] hs rfl ?_
 have hle:=hs.le
 refine Xo 3 rfl (Sp (Jo hUc oM hT) hs rfl fun v1 G' _ hR hG16 hs=>?_)
 obtain rfl:=hR
 replace hTf:=hTf.mono hG16
 replace hTe:=hTe.mono hG16
 replace hUc:=hUc.mono hG16
 replace hUm:=hUm.mono hG16
 replace hUf:=hUf.mono hG16
 replace hUe:=hUe.mono hG16
 replace hT:=hT.mono hG16
 refine Ai hs hle hG16 (lSr _)<|Xt 5 hs rfl (Ce (zs:=(Pd (Vn) (Vn) (Vn) (Vn) (List.replicate 256 0) 0 (Vn) false)) zeroValue134 kR (pl:=[(0,4),(4,256),(260,1),(261,1),(262,1)]) kR rfl (cs:=(Pd (.slice A5 u.cls.length c5) (.slice A6 u.moves.length c6) (.slice A7 u.final.length c7) (.slice A8 u.ends.length c8) (Cv u.cls) q (Vn) false)) (fill263s (Ch _)) ?_)
 have hle:=hs.le
 refine Xo 6 rfl (Fj hs rfl (cs:=_) rfl fun b19 _ hs =>Ai hs hle (gLr _) (Aax _ _)<|Xr [7] [] hs rfl<|Xe (Zk [2,4,5,10] rfl ?_))
 have hs:=hs.f2
 obtain ⟨_,hGbhB4,hB4,hs⟩:=hs.fixBlk (fun k _=>Gb k)
 replace hB4:Cg _ b4 _:=hB4
 have hs:=hs.f1
 obtain ⟨_,hGbhB5,hB5,hs⟩:=hs.fixBlk (fun k _=>Gb k)
 replace hB5:Cg _ b5 _:=hB5
 refine Wu 4 [3] hs rfl ?_
 replace hB4:=hB4.mono hGbhB5
 refine Zy hs (Yg rfl (hB4 3 _ rfl)<|Wp 1 [] hs rfl ?_)
 replace hTe:=hTe.mono (hGbhB4.trans hGbhB5)
 refine Zy hs (Qp hTe p underlying31 sizeOf22 rfl rfl rfl oM fun p23 u23 hp23 hu23=>?_)
 obtain ⟨A23,c23,rfl,_⟩:=id hu23
 rw [hee] at hu23 hp23
 refine Zy hs (Yg rfl (hp23)<|Wp 3 [0] hs rfl ?_)
 have hs:=hs.nilRow 76 2
 have hs:=hs.f1
 obtain ⟨Gp0,hGp⟩:=hs.name
 subst hGp
 replace hTf:=hTf.mono (hGbhB4.trans hGbhB5)
 have hTf_0:=hTf
 have hTe_0:=hTe
 replace hUc:=hUc.mono (hGbhB4.trans hGbhB5)
 have hUc_0:=hUc
 replace hUm:=hUm.mono (hGbhB4.trans hGbhB5)
 have hUm_0:=hUm
 replace hUf:=hUf.mono (hGbhB4.trans hGbhB5)
 have hUf_0:=hUf
 replace hUe:=hUe.mono (hGbhB4.trans hGbhB5)
 have hUe_0:=hUe
 replace hT:=hT.mono (hGbhB4.trans hGbhB5)
 have hT_0:=hT
 have hB4_0:=hB4
 have hB5_0:=hB5
 have hu23_0:=hu23
 refine Zl [2,4,5,10,24,25,26] (fun m E w=>∃ (k:Nat) (rd:dR) (vo:Value) (G2:Ah),Cu Gp0 G2∧k≤ee.length∧rd=(lits (ee.take k)).foldl (Of u 0) ⟨q,[],false⟩∧m=ee.length-k∧E=⟨[],[(2,Vi (p:Int)),(4,Vp b4),(5,Vp b5),(10,Vp b19),(24,.slice A23 ee.length c23),(25,Vi ((ee.length:Nat):Int)),(26,Vi (k:Int))]⟩∧St ⟨w0,G,Bj []⟩ G2 [.blk b19 134 (Pd (.slice A5 u.cls.length c5) (.slice A6 u.moves.length c6) (.slice A7 u.final.length c7) (.slice A8 u.ends.length c8) (Cv u.cls) rd.at_ vo rd.stuck),.row 76 2 (vo) rd.out.length (sA rd.out)] w) rfl (⟨0,⟨q,[],false⟩,_,_,Cu.refl _,by omega,rfl,rfl,rfl,hs⟩) fun m E w hI=>?_
 obtain ⟨k,rd,vo,G2,hlg0,hk9,hrd,rfl,rfl,hs⟩:=hI
 have hTf:=hTf_0.mono hlg0
 have hTe:=hTe_0.mono hlg0
 have hUc:=hUc_0.mono hlg0
 have hUm:=hUm_0.mono hlg0
 have hUf:=hUf_0.mono hlg0
 have hUe:=hUe_0.mono hlg0
 have hT:=hT_0.mono hlg0
 have hB4:=hB4_0.mono hlg0
 have hB5:=hB5_0.mono hlg0
 have hu23:=hu23_0.mono hlg0
 have hrq:rd.at_<u.moves.length:=by rw [hrd];exact Cn7.rd_lt hutok _ hq
 have hro:rd.out.length≤64:=by have:=oK hutok (like:=0) (lits (ee.take k)) (r:=⟨q,[],false⟩) hq;rw [← hrd,lits_len,Aag] at this;simp only [List.length_nil] at this;omega
 refine Wt 2 [] hs rfl<|Zy hs (Yc rfl (fun h27=>?_) fun h27=>?_)
 ·
  refine Wp 8 [0] hs rfl<|Zy hs (Ek hu23 k underlying22 sizeOf5 rfl rfl rfl oM fun p28 hp28=>?_)
  obtain ⟨x,hx⟩:∃ z,ee[k]'oM=z:=⟨_,rfl⟩
  rw [hx] at hp28
  refine Zy hs (Yg rfl (hp28)<|Wp 5 [0] hs rfl<|Zy hs (Ce zeroValue76 rfl gN rfl (cs:=[_,_]) rfl<|O_s (Sc (kY (rd:=rd) (p:=⟨false,x⟩) (like:=0) hUm hutok hrq oM) hs.f1.f1 rfl fun v2 G' H' _ hR hG33 hs=>?_)))
  obtain ⟨vo2,rfl⟩:=hR
  replace hs:=hs.n rfl
  refine Wp 2 [0] hs rfl<|Zy hs (Ya (s:=((k+1:Nat):Int)) rfl<|Wp 1 [] hs rfl ?_)
  have hs:=hs.f1.f1
  replace hlg0:=hlg0.mono hG33
  refine Zx [2,4,5,10,24,25,26] rfl ⟨k+1,Of u 0 rd ⟨false,x⟩,vo2,_,hlg0,by omega,by rw [vF oM hx,← hrd],rfl,rfl,hs⟩
 refine Wp 4 [0] hs rfl ?_
 obtain rfl:k=ee.length:=by omega
 rw [Aaj] at hrd
 have hendR:cT t u (p,q)=rd:=by rw [hrd];unfold cT;rw [Cn7.gD (show p<t.ends.length by omega),hee]
 obtain ⟨ff,hff⟩:∃ z,t.final[p]'oM=z:=⟨_,rfl⟩
 obtain ⟨fu,hfu⟩:∃ z,u.final[rd.at_]'oM=z:=⟨_,rfl⟩
 obtain ⟨ue,hue⟩:∃ z,u.ends[rd.at_]'oM=z:=⟨_,rfl⟩
 refine Wu 2 [] hs rfl<|Bg [0,1,2,3,4,5,6,7,8,9,10,11,12,13,14,15,16,17,18,19,20,21,22] hs kR ?_
 replace hs:=hs.drew
 refine Xr [0] [2] hs rfl<|Xt 1 hs rfl (Yg rfl (hB4 2 _ rfl)<|Xr [2] [] hs rfl<|Xt 3 hs rfl (Ee p underlying30 sizeOf4 hTf rfl rfl rfl (Dm oM) fun p38 hp38=>?_))
 rw [hff] at hp38
 refine Xt 4 hs rfl (Yg rfl (hp38) ?_)
 cases ff
 ·
  refine Xr [5,6,7,8,9,10,11,12,13,14,15,16,17,18,19,20,21,22] [] hs rfl<|Xe (Zk [5,10,57] rfl<|Wu 6 [0] hs rfl<|As ?_)
  refine By (vs:=[_,_]) results73 rfl ⟨rfl,rfl,trivial⟩ ?_
  try dsimp only [tup]
  have hE:=gO hendR (.inl (by rw [Cn7.gD (show p<t.final.length by omega),hff]))
  rw [hE]
  exact hs.q ⟨_,rfl,Sl.nil _ _⟩
 refine Xr [5,6,7] [] hs rfl<|Xt 8 hs rfl (Ci rfl<|Xr [9] [262] hs rfl ?_)
 obtain ⟨sk,hskr⟩:∃ s,rd.stuck=s:=⟨_,rfl⟩
 refine Xt 10 hs rfl (Ej 0 isAgg4 rfl rfl (by rw [hskr];exact (Hi (j:=2) (Ch _))) ?_)
 cases sk
 ·
  refine Xr [11,12,13] [2] hs rfl<|Xt 14 hs rfl (Yg rfl (hB5 2 _ rfl)<|Xr [15] [] hs rfl<|Xt 16 hs rfl (Ci rfl<|Xr [17] [260] hs rfl<|Xt 18 hs rfl (Ej 0 isAgg3 rfl rfl (Hi (j:=0) (Ch _))<|Xt 19 hs rfl (Ee rd.at_ underlying30 sizeOf4 hUf rfl rfl rfl (Dm oM) fun p54 hp54=>?_))))
  rw [hfu] at hp54
  refine Xt 20 hs rfl (Yg rfl (hp54) ?_)
  cases fu
  ·
   refine Xr [21,22] [] hs rfl<|Xe (Zk [5,10,57] rfl<|Wu 6 [0] hs rfl<|As ?_)
   refine By (vs:=[_,_]) results73 rfl ⟨rfl,rfl,trivial⟩ ?_
   try dsimp only [tup]
   have hE:=gO hendR (.inr (.inr (by rw [Cn7.gD (show rd.at_<u.final.length by omega),hfu])))
   rw [hE]
   exact hs.q ⟨_,rfl,Sl.nil _ _⟩
  refine Xr [21,22] [] hs rfl<|Xe (Zk [5,10,57] rfl<|Wu 2 [] hs rfl ?_)
  have hs:=hs.f1
  obtain ⟨_,hG_hpo,hpo,hs⟩:=hs.fixRow noM
  have hpcs:=Vk hpo
  clear hpo
  have hsK:=hs
  clear hs
  obtain ⟨Ao,co,rfl⟩:=hpcs.slice
  have hs:=hsK
  clear hsK
  refine Wu 1 [] hs rfl<|Bg [0,1,2,3,4,5,6,7,8,9,10,11,12] hs kR ?_
  replace hs:=hs.drew
  refine Xr [0] [] hs rfl<|Xt 1 hs rfl (Ci rfl<|Xr [2] [261] hs rfl<|Xt 3 hs rfl (Ej 0 isAgg72 rfl rfl (Hi (j:=1) (Ch _))<|Xr [5] [3] hs rfl ?_))
  replace hB5:=hB5.mono hG_hpo
  refine Xt 6 hs rfl (Yg rfl (hB5 3 _ rfl)<|Xr [7] [] hs rfl<|Xt 8 hs rfl (Ci rfl<|Xr [9] [260] hs rfl<|Xt 10 hs rfl (Ej 0 isAgg3 rfl rfl (Hi (j:=0) (Ch _)) ?_)))
  replace hUe:=hUe.mono hG_hpo
  refine Xt 11 hs rfl (Qp hUe rd.at_ underlying31 sizeOf22 rfl rfl rfl oM fun p69 u69 hp69 hu69=>?_)
  obtain ⟨A69,c69,rfl,_⟩:=id hu69
  rw [hue] at hu69 hp69
  have huen:=(hutok.en rd.at_ hrq).1
  rw [Cn7.gD (show rd.at_<u.ends.length by omega),hue] at huen
  refine Xt 12 hs rfl (Yg rfl (hp69) ?_)
  have hle:=hs.le
  refine Xo 4 rfl (Sc (writr_ok (b:=0) hpcs oM) hs rfl fun v3 G' H' _ hR hG62 hs=>?_)
  obtain rfl:=hR
  replace hs:=hs.n rfl
  replace hu69:=hu69.mono hG62
  refine Ai hs hle hG62 (Aax _ _)<|Xa 13 rfl (Au hs underlying22 cK rfl dC rfl rfl (hu69) (Pm) Z60 Z60 fun v4 _ hs =>Xa 14 rfl (S_y hs rfl (Yq rfl<|Xa 15 rfl (S_y hs rfl (Yq rfl<|Xe (Zk [8,9] rfl<|As ?_))))))
  refine By (vs:=[_,_]) results73 rfl ⟨rfl,rfl,trivial⟩ ?_
  try dsimp only [tup]
  have hE:=endF_yes hendR (by rw [Cn7.gD (show p<t.final.length by omega),hff]) hskr (by rw [Cn7.gD (show rd.at_<u.final.length by omega),hfu])
  rw [hE,Cn7.gD (show rd.at_<u.ends.length by omega),hue]
  obtain ⟨G9,hG9,hf,hs⟩:=hs.fixRow noM
  exact hs.q ⟨_,rfl,Bd.ofSl hf (by show _=(Gt rd.out 0++ue).length;rw [AaB]) (by show _=(Gt rd.out 0++ue).map Dy;rw [AaU])⟩
 refine Xr [11,12,13,14,15,16,17,18,19,20,21,22] [] hs rfl<|Xe (Zk [5,10,57] rfl<|Wu 6 [0] hs rfl<|As ?_)
 refine By (vs:=[_,_]) results73 rfl ⟨rfl,rfl,trivial⟩ ?_
 try dsimp only [tup]
 have hE:=gO hendR (.inr (.inl hskr))
 rw [hE]
 exact hs.q ⟨_,rfl,Sl.nil _ _⟩
def ClLR (G:Ah) (c:List Value) (r:List (List Nat)):Prop:=∃ v,c=[v]∧Hl G v r
def CLL (G:Ah) (v:Value) (l:List (List (List Nat))):Prop:=Bi 1 ClLR G v l
theorem CLL.mono {G G':Ah} (h:G.le G') {v:Value} {l:List (List (List Nat))} (hl:CLL G v l):CLL G' v l:=Bi.mono (fun _ _ ⟨v,e,hn⟩=>⟨v,e,hn.mono h⟩) h hl
theorem clsL_sl {v:Value} {l:List (List Nat)} (h:Hl G v l):Sl G v 4 l.length (Dq l):=by
  obtain ⟨cs,h1,h2,h3⟩:=h
  have e:cs=l.map fun c=>c.map Bb:=by
    clear h1 h3
    induction cs generalizing l with
    | nil=>cases l with
      | nil=>rfl
      | cons=>exact h2.elim
    | cons c cs ih=>cases l with
      | nil=>exact h2.elim
      | cons a l=>rw [Aar,ih h2.2,h2.1.1]
  subst e;exact h1
theorem flc_le {α:Type} {l:List (List α)} {k:Nat} (h:k<l.length):(l.take k).flatten.length+l[k].length≤l.flatten.length:=by
  conv=>rhs;rw [← List.take_append_drop k l,Aaq h]
  simp only [List.flatten_append,AbW,AaB];omega
theorem kZ {α:Type} {l:List (List α)} {k:Nat} (h:k<l.length):(l.take (k+1)).flatten=(l.take k).flatten++l[k]:=by
  rw [Hj h,List.flatten_append];simp
theorem oL {l:List (List Nat)}:∀ y∈Dq l,y.oneCell'=true:=by
  intro y hy;unfold Dq at hy;obtain ⟨c,hc,hy⟩:=List.mem_flatten.1 hy;obtain ⟨a,_,rfl⟩:=Aaf.1 hc;obtain ⟨b,_,rfl⟩:=Aaf.1 hy;rfl
theorem growc_ok {n:Nat} (hn:n≤1000000) :
  Ba prog 129 [Vn,Vi (n:Int)] G [] fun r _ H'=>H'=[.row 86 4 r 0 []]:=by
 refine Ba.of_T [(0,_),(1,_)] func129 rfl ntmps129 sM rfl fun w0 hs =>Wt 8 [0] hs rfl<|Zy hs (Mz rfl rfl rfl oM<|Wp 8 [0] hs rfl<|Zy hs (Y_cap underlying28 rfl<|Wp 2 [] hs rfl<|Zy hs (Ll (c:=0) rfl rfl oM oM<|Zy hs (Ll (c:=(n:Int)) rfl rfl oM oM<|Wp 5 [0] hs rfl<|Zy hs (Yc rfl (fun h16=>?_) fun h16=>?_)))))
 ·
  refine Wp 5 [0] hs rfl<|Zy hs (Y_cap underlying28 rfl<|Zy hs (Yr 0 underlying28 sizeOf86 rfl rfl rfl oM<|Wp 1 [] hs rfl<|O_s (mX hs underlying28 underlying3 jY rfl dC rfl rfl oM oM oM fun bz cz xz _ hcz hs =>Wp 2 [] hs rfl<|Zy hs (Yr 0 underlying28 sizeOf86 rfl rfl rfl oM<|Wp 7 [1,0,0] hs rfl<|As<|Zz results129 rfl ?_))))
  have hs:=hs.rowTake (m:=0) oM
  exact ⟨_,_,hs,by simp⟩
 refine Wp 8 [0,0] hs rfl<|As<|Zz results129 rfl ?_
 exact ⟨_,_,hs.nilRow 86 4,rfl⟩
theorem concc_ok {A:Option Addr} {cap:Nat} {l:List (List (List Nat))} (hl:CLL G (.slice A l.length cap) l) (hn:l.length≤1000000) (hm:l.flatten.length≤1000000) (hc4:Nn l.flatten) :
  Ba prog 70 [(.slice A l.length cap)] G [] fun r G' H'=>H'=[]∧Hl G' r l.flatten:=by
 refine Ba.of_T [(0,_)] func70 rfl ntmps70 sM rfl fun w0 hs=>?_
 have hl0:=hl
 refine Wt 15 [0,0,0] hs rfl ?_
 obtain ⟨Gp0,hGp⟩:=hs.name
 subst hGp
 have hl_0:=hl
 refine Zl [0,3,9,10,11] (fun m E w=>∃ (k:Nat) (G2:Ah),Cu Gp0 G2∧k≤l.length∧m=l.length-k∧E=⟨[],[(0,(.slice A l.length cap)),(3,Vi ((l.take k).flatten.length:Int)),(9,(.slice A l.length cap)),(10,Vi ((l.length:Nat):Int)),(11,Vi (k:Int))]⟩∧St ⟨w0,Gp0,Bj []⟩ G2 [] w) rfl (⟨0,_,Cu.refl _,by omega,rfl,rfl,hs⟩) fun m E w hI=>?_
 obtain ⟨k,G2,hlg0,hk,rfl,rfl,hs⟩:=hI
 have hl:=hl_0.mono hlg0
 refine Wt 2 [] hs rfl<|Zy hs (Yc rfl (fun h12=>?_) fun h12=>?_)
 ·
  refine Wp 8 [0] hs rfl<|Zy hs (Ca hl (k) underlying203 sizeOf28 rfl rfl rfl oM fun p13 cc13 hp13 hc13 hR13=>?_)
  obtain ⟨u13,rfl,hv13⟩:=hR13
  obtain ⟨Av13,cv13,rfl⟩:=hv13.slice
  refine Zy hs (Yg rfl (hp13 0 _ rfl)<|Wp 7 [0] hs rfl<|Zy hs (Kn (c:=(((l.take k).flatten.length+l[k].length:Nat):Int)) rfl rfl Z44 Z44<|Wp 5 [0] hs rfl<|Zy hs (Mz rfl rfl rfl oM<|Wp 4 [0] hs rfl<|Zy hs (Ya (s:=((k+1:Nat):Int)) rfl<|Wp 1 [] hs rfl<|Zx [0,3,9,10,11] rfl ⟨k+1,_,hlg0,by omega,rfl,by rw [kZ oM,AaB],hs⟩))))
 refine Wp 4 [0] hs rfl<|Wu 3 [] hs rfl<|O_s (Sc (growc_ok (n:=(l.take k).flatten.length) (by rw [Aab oM];exact hm)) hs rfl fun v1 G' H' _ hR hG24 hs=>?_)
 obtain rfl:=hR
 replace hs:=hs.n rfl
 refine Wp 9 [0,0] hs rfl ?_
 obtain ⟨Gp1,hGp⟩:=hs.name
 subst hGp
 replace hl:=hl.mono hG24
 have hl_1:=hl
 replace hlg0:=hlg0.mono hG24
 have hlg0_1:=hlg0
 refine Zl [6,25,26,27] (fun m E w=>∃ (k:Nat) (v3:Value) (G2:Ah),Cu Gp1 G2∧k≤l.length∧m=l.length-k∧E=⟨[],[(6,v3),(25,(.slice A l.length cap)),(26,Vi ((l.length:Nat):Int)),(27,Vi (k:Int))]⟩∧St ⟨w0,Gp0,Bj []⟩ G2 [.row 86 4 v3 (l.take k).flatten.length (Dq (l.take k).flatten)] w) rfl (⟨0,_,_,Cu.refl _,by omega,rfl,rfl,hs⟩) fun m E w hI=>?_
 obtain ⟨k,v3,G2,hlg1,hk,rfl,rfl,hs⟩:=hI
 have hl:=hl_1.mono hlg1
 have hlg0:=hlg0_1.mono hlg1
 refine Wt 2 [] hs rfl<|Zy hs (Yc rfl (fun h28=>?_) fun h28=>?_)
 ·
  refine Wp 8 [0] hs rfl<|Zy hs (Ca hl (k) underlying203 sizeOf28 rfl rfl rfl oM fun p29 cc29 hp29 hc29 hR29=>?_)
  obtain ⟨u29,rfl,hv29⟩:=hR29
  obtain ⟨Av29,cv29,rfl⟩:=hv29.slice
  refine Zy hs (Yg rfl (hp29 0 _ rfl)<|Wp 5 [0] hs rfl<|O_s (Au hs underlying28 jY rfl dC rfl rfl (clsL_sl hv29) (oL) Z44 Z44 fun v2 _ hs =>Wp 3 [0] hs rfl<|Zy hs (Ya (s:=((k+1:Nat):Int)) rfl<|Wp 1 [] hs rfl<|Zx [6,25,26,27] rfl ⟨k+1,_,_,hlg1,by omega,rfl,rfl,by rw [kZ oM,AaB,eN];exact hs⟩)))
 refine Wp 4 [0] hs rfl<|Wu 5 [0] hs rfl<|As<|Zz results70 rfl ?_
 obtain rfl:k=l.length:=by omega
 rw [Aaj] at hs
 obtain ⟨G',hG,hf,hs3⟩:=hs.fixRow noM
 exact ⟨G',[],hs3,rfl,Px hf hc4⟩
end Go.Proofs.YtmohebpaonkaeaaGreatDoor
