/- Part 7 of the walk through the functions that the laws of package fleet call: each function's contract, without conditions but those that its statement names. -/
import Derived.Test.YtngdgnolkilheaaGreatDoorMF
set_option maxHeartbeats 4000000
set_option maxRecDepth 10000
set_option linter.unusedVariables false
set_option linter.unusedSimpArgs false
set_option linter.unusedSectionVars false
namespace Go.Proofs.YtngdgnolkilheaaGreatDoor
open Go Go.Ex Go.RowKit Go.Proofs.Tryz
theorem aP {l:List Nat} (h:w64B l=true):∀ w∈l,w<W64:=fun w hw=>of_decide_eq_true (List.all_eq_true.1 h w hw)
theorem eY {G:Ghost} {v:Value} {c:List Nat} (hk:wX c=true) (hT:Tab G) (hr:Rx G v (Dy c)):Ai prog 167 [v] G [] fun r G' H'=>H'=[]∧∃ vd D,r=.tuple #[vd,Vi 0]∧Oh G' vd D:=by
  unfold wX at hk
  simp only [Bool.and_eq_true,decide_eq_true_eq] at hk
  obtain ⟨hc,hwc,hwp,hwq,hp0,hq0,hsz,hrv,hk⟩:=hk
  obtain ⟨c0,c1,c2,c3,rfl⟩:=Mj hc
  obtain ⟨p0,p1,p2,p3,hp⟩:=Mj (Mf (a:=Je [0,0,0,0]) (b:=[c0,c1,c2,c3]) rfl rfl)
  obtain ⟨q0,q1,q2,q3,hq⟩:=Mj (aN (a:=Je [0,0,0,0]) (b:=[c0,c1,c2,c3]) rfl rfl)
  rw [hp,hq] at hk
  rw [hp] at hwp hp0
  rw [hq] at hwq hq0
  split at hk
  · rename_i x y hx hy
    simp only [Bool.and_eq_true,decide_eq_true_eq,Bool.not_eq_true'] at hk
    obtain ⟨hlt,hhx,hhy,hv,hok,hk⟩:=hk
    split at hk
    · rename_i D E0 hD hE
      simp only [Bool.and_eq_true,decide_eq_true_eq] at hk
      obtain ⟨hoe,hk⟩:=hk
      split at hk
      · rename_i D2 hS
        obtain ⟨D3,hC⟩:=Option.isSome_iff_exists.1 hk
        exact (wW (aP hwc) hp hq hp0 hq0 (aP hwp) (aP hwq) hT hx hy hlt hsz hhx hhy hv hok hD hoe hE hS hC hr hrv).mono fun r G' H' _ ⟨h1,vd,h2,h3⟩=>⟨h1,vd,D3,h2,h3⟩
      · cases hk
    · cases hk
  · cases hk
theorem aQ {G:Ghost} {v:Value} {l:List Ef} (hl:Ps l) (hT:Tab G) (hr:Rx G v l):Ai prog 167 [v] G [] fun r G' H'=>H'=[]∧∃ vd D,r=.tuple #[vd,Vi 0]∧Oh G' vd D:=by
  rcases hl with rfl | rfl | rfl
  · exact eY chk_A hT hr
  · exact eY chk_B hT hr
  · exact eY chk_AB hT hr
theorem Ev {G:Ghost} {x lo hi:Int} :
  Ai prog 188 [Vi x,Vi lo,Vi hi] G [] fun r _ H'=>H'=[]∧r=.bool (Qb x lo hi):=by
 refine Ai.of_T [(0,_),(1,_),(2,_)] func188 rfl ntmps188 sM rfl fun w0 hs =>Wt 8 [0] hs rfl<|Zy hs (Yc rfl (fun h9=>?_) fun h9=>?_)
 ·
  refine Wp 3 [] hs rfl<|Zg hs rfl (Yc rfl (fun h13=>?_) fun h13=>?_)
  ·
   refine Wp 3 [0] hs rfl<|Ah<|Zz results188 rfl ?_
   exact ⟨_,[],hs.done,rfl,congrArg Value.bool (by unfold Qb;exact (decide_eq_true oM).symm)⟩
  refine Wp 3 [0] hs rfl<|Ah<|Zz results188 rfl ?_
  exact ⟨_,[],hs.done,rfl,congrArg Value.bool (by unfold Qb;exact (decide_eq_false oM).symm)⟩
 refine Wp 7 [0] hs rfl<|Ah<|Zz results188 rfl ?_
 exact ⟨_,[],hs.done,rfl,congrArg Value.bool (by unfold Qb;exact (decide_eq_false oM).symm)⟩
theorem Gf {G:Ghost} {x:Int} :
  Ai prog 187 [Vi x] G [] fun r _ H'=>H'=[]∧r=.bool (Ha x):=by
 refine Ai.of_T [(0,_)] func187 rfl ntmps187 sM rfl fun w0 hs =>Wt 7 [0] hs rfl<|O_s (Sc (Ev) hs rfl fun v1 G' H' _ hR hG4 hs=>?_)
 obtain ⟨rfl,rfl⟩:=hR
 replace hs:=hs.n rfl
 refine Wp 2 [0] hs rfl<|Ah<|Zz results187 rfl ?_
 exact ⟨_,[],hs.done,rfl,rfl⟩
theorem sidx_ok {G:Ghost} {v:Value} {l:List Int} {x:Int} (hl:Bt G v l) (hn:l.length≤1000000) :
  Ai prog 59 [v,Vi x] G [] fun r _ H'=>H'=[]∧∃ z:Int,r=Vi z∧(0≤z↔x∈l):=by
 obtain ⟨Al,cl,rfl,_⟩:=id hl
 refine Ai.of_T [(0,_),(1,_)] func59 rfl ntmps59 sM rfl fun w0 hs=>?_
 have hl0:=hl
 refine Wt 11 [0,0] hs rfl<|Zl [0,1,7,8] (fun m E w=>∃ (k:Nat) (G2:Ghost),k≤l.length∧x∉l.take k∧m=l.length-k∧E=⟨[],[(0,(.slice Al l.length cl)),(1,Vi x),(7,Vi ((l.length:Nat):Int)),(8,Vi (k:Int))]⟩∧St ⟨w0,G,Bl []⟩ G2 [] w) rfl (⟨0,_,by omega,by simp,rfl,rfl,hs⟩) fun m E w hI=>?_
 obtain ⟨k,G2,hk,hx,rfl,rfl,hs⟩:=hI
 have hl:=hl0.mono hs.le
 refine Wt 2 [] hs rfl<|Zy hs (Yc rfl (fun h9=>?_) fun h9=>?_)
 ·
  refine Wp 16 [0,0] hs rfl<|Zy hs (Dl hl k underlying33 sizeOf3 rfl rfl rfl oM fun p14 hp14 =>Zy hs (Yg rfl (hp14)<|Zy hs (Yc rfl (fun h16=>?_) fun h16=>?_)))
  ·
   refine Wp 7 [0,0] hs rfl<|Ah<|Zz results59 rfl ?_
   exact ⟨_,[],hs.done,rfl,_,rfl,⟨fun _=>by rw [show x=l[k]'oM from h16];exact List.getElem_mem _,fun _=>by omega⟩⟩
  refine Wp 4 [0] hs rfl<|Zy hs (Ya (s:=((k+1:Nat):Int)) rfl<|Wp 1 [] hs rfl<|Zx [0,1,7,8] rfl ⟨k+1,_,by omega,by rw [List.take_add_one,List.getElem?_eq_getElem oM];intro h;rcases List.mem_append.1 h with h | h;exact hx h;exact h16 bT,rfl,rfl,hs⟩)
 refine Wp 4 [0] hs rfl<|Wu 4 [0] hs rfl<|Ah<|Zz results59 rfl ?_
 obtain rfl:k=l.length:=by omega
 rw [List.take_length] at hx
 exact ⟨_,[],hs.done,rfl,_,rfl,⟨fun h=>by omega,fun h=>absurd h hx⟩⟩
theorem So {G:Ghost} {v:Value} {l:List Int} {x:Int} (hl:Bt G v l) (hn:l.length≤1000000) :
  Ai prog 36 [v,Vi x] G [] fun r _ H'=>H'=[]∧r=.bool (l.contains x):=by
 refine Ai.of_T [(0,_),(1,_)] func36 rfl ntmps36 sM rfl fun w0 hs=>?_
 have hl0:=hl
 refine Wt 8 [0] hs rfl<|O_s (Sc (sidx_ok hl hn) hs rfl fun v1 G' H' _ hR hG7 hs=>?_)
 obtain ⟨rfl,z,rfl,hz⟩:=hR
 replace hs:=hs.n rfl
 refine Zy hs (Yc rfl (fun h8=>?_) fun h8=>?_)
 ·
  refine Wp 2 [0] hs rfl<|Ah<|Zz results36 rfl ?_
  exact ⟨_,[],hs.done,rfl,congrArg Value.bool (by rw [List.contains_iff_mem.2 (hz.1 oM)])⟩
 refine Wp 2 [0] hs rfl<|Ah<|Zz results36 rfl ?_
 exact ⟨_,[],hs.done,rfl,congrArg Value.bool (by rw [eq_comm,Bool.eq_false_iff];intro h;exact absurd (hz.2 (List.contains_iff_mem.1 h)) oM)⟩
theorem Pe {G:Ghost} {v:Value} {l:List Int} (hl:Bt G v l) (hn:l.length≤1000000) :
  Ai prog 189 [v] G [] fun r _ H'=>H'=[]∧r=.bool (Js l):=by
 obtain ⟨Al,cl,rfl,_⟩:=id hl
 refine Ai.of_T [(0,_)] func189 rfl ntmps189 sM rfl fun w0 hs=>?_
 have hl0:=hl
 refine Wt 11 [0,0] hs rfl<|Zl [0,5,6,7] (fun m E w=>∃ (k:Nat) (G2:Ghost),k≤l.length∧Js l=eO (l.take k) (l.drop k)∧m=l.length-k∧E=⟨[],[(0,(.slice Al l.length cl)),(5,(.slice Al l.length cl)),(6,Vi ((l.length:Nat):Int)),(7,Vi (k:Int))]⟩∧St ⟨w0,G,Bl []⟩ G2 [] w) rfl (⟨0,_,by omega,rfl,rfl,rfl,hs⟩) fun m E w hI=>?_
 obtain ⟨k,G2,hk,htg,rfl,rfl,hs⟩:=hI
 have hl:=hl0.mono hs.le
 refine Wt 2 [] hs rfl<|Zy hs (Yc rfl (fun h8=>?_) fun h8=>?_)
 ·
  refine Wp 9 [0] hs rfl<|Zy hs (Dl hl k underlying33 sizeOf3 rfl rfl rfl oM fun p10 hp10=>?_)
  obtain ⟨x,hxe⟩:∃ x,x=l[k]'oM:=⟨_,rfl⟩
  rw [← hxe] at hp10
  refine Zy hs (Yg rfl (hp10)<|Wp 6 [0] hs rfl<|O_s (Sc (Ev) hs rfl fun v1 G' H' _ hR hG13 hs=>?_))
  obtain ⟨rfl,rfl⟩:=hR
  replace hs:=hs.n rfl
  replace hl:=hl.mono hG13
  cases h13:Qb x 1 11
  ·
   refine Wp 14 [0,0] hs rfl<|Ah<|Zz results189 rfl ?_
   exact ⟨_,[],hs.done,rfl,congrArg Value.bool (by rw [htg,List.drop_eq_getElem_cons oM,eO];rw [← hxe,h13];rfl)⟩
  refine Wp 4 [] hs rfl<|Zg hs rfl (Nt hl 0 k underlying33 sizeOf3 rfl rfl ⟨_,_,rfl,rfl⟩ oM oM fun s18 hs18=>?_)
  obtain ⟨A18,c18,rfl,_⟩:=id hs18
  refine Wp 1 [] hs rfl<|Ch 15 rfl rfl (Sc (So hs18 Nj) hs rfl fun v2 G' H' _ hR hG20 hs=>?_)
  obtain ⟨rfl,rfl⟩:=hR
  replace hs:=hs.n rfl
  cases h20:((l.drop 0).take (k-0)).contains x
  ·
   refine Wp 5 [0] hs rfl<|Zy hs (Ya (s:=((k+1:Nat):Int)) rfl<|Wp 1 [] hs rfl<|Zx [0,5,6,7] rfl ⟨k+1,_,by omega,by rw [htg,List.drop_eq_getElem_cons oM,eO,← hxe,h13,show (l.take k).contains x=false from by simpa using h20,List.take_add_one,List.getElem?_eq_getElem oM,← hxe];rfl,rfl,rfl,hs⟩)
  refine Wp 7 [0,0] hs rfl<|Ah<|Zz results189 rfl ?_
  exact ⟨_,[],hs.done,rfl,congrArg Value.bool (by rw [htg,List.drop_eq_getElem_cons oM,eO];rw [← hxe,show (l.take k).contains x=true from by simpa using h20];simp)⟩
 refine Wp 4 [0] hs rfl<|Wu 4 [0] hs rfl<|Ah<|Zz results189 rfl ?_
 obtain rfl:k=l.length:=by omega
 exact ⟨_,[],hs.done,rfl,congrArg Value.bool (by rw [htg,List.drop_length];rfl)⟩
theorem nval_ok {G:Ghost} {q:Of} :
  Ai prog 165 [.agg #[Vi q.base,Vi q.digits,Vi q.top,Vi q.over,.bool q.zeros]] G [] fun r _ H'=>H'=[]∧r=Vi (dF q):=by
 refine Ai.of_T [(0,_)] func165 rfl ntmps165 sM rfl fun w0 hs =>Wt 2 [] hs rfl<|O_s (Sb hs rfl fun b1 _ hs=>Wp 6 [0,0,0] hs rfl<|Zy hs (Yc rfl (fun h6=>?_) fun h6=>?_))
 ·
  refine Wp 15 [0,1,0] hs rfl<|Zg hs rfl (Yc rfl (fun h17=>?_) fun h17=>?_)
  ·
   refine Wp 32 [1,43,0] hs rfl<|Ah<|Zz results165 rfl ?_
   exact ⟨_,[],hs.done,rfl,congrArg (Value.int .i64) qU⟩
  refine Wp 4 [1,0] hs rfl<|Zg hs rfl (Yc rfl (fun h22=>?_) fun h22=>?_)
  ·
   refine Wp 27 [1,43,0] hs rfl<|Ah<|Zz results165 rfl ?_
   exact ⟨_,[],hs.done,rfl,congrArg (Value.int .i64) qU⟩
  refine Wp 4 [2,0] hs rfl<|Zg hs rfl (Yc rfl (fun h27=>?_) fun h27=>?_)
  ·
   refine Wp 22 [1,43,0] hs rfl<|Ah<|Zz results165 rfl ?_
   exact ⟨_,[],hs.done,rfl,congrArg (Value.int .i64) qU⟩
  refine Wp 4 [2,0] hs rfl<|Zg hs rfl (Yc rfl (fun h32=>?_) fun h32=>?_)
  ·
   refine Wp 17 [1,43,0] hs rfl<|Ah<|Zz results165 rfl ?_
   exact ⟨_,[],hs.done,rfl,congrArg (Value.int .i64) qU⟩
  refine Wp 4 [3,0] hs rfl<|Zg hs rfl (Yc rfl (fun h37=>?_) fun h37=>?_)
  ·
   refine Wp 12 [1,43,0] hs rfl<|Ah<|Zz results165 rfl ?_
   exact ⟨_,[],hs.done,rfl,congrArg (Value.int .i64) qU⟩
  refine Wp 4 [3,0] hs rfl<|Zg hs rfl (Yc rfl (fun h42=>?_) fun h42=>?_)
  ·
   refine Wp 7 [1,43,0] hs rfl<|Ah<|Zz results165 rfl ?_
   exact ⟨_,[],hs.done,rfl,congrArg (Value.int .i64) qU⟩
  refine Wp 8 [1,43,0] hs rfl<|Ah<|Zz results165 rfl ?_
  exact ⟨_,[],hs.done,rfl,congrArg (Value.int .i64) (by unfold dF;rw [if_neg oM])⟩
 refine Wp 3 [0,0] hs rfl<|Zg hs rfl (Yc rfl (fun h10=>?_) fun h10=>?_)
 ·
  refine Wp 11 [0,1,0] hs rfl<|Zg hs rfl (Yc rfl (fun h17=>?_) fun h17=>?_)
  ·
   refine Wp 32 [1,43,0] hs rfl<|Ah<|Zz results165 rfl ?_
   exact ⟨_,[],hs.done,rfl,congrArg (Value.int .i64) qU⟩
  refine Wp 4 [1,0] hs rfl<|Zg hs rfl (Yc rfl (fun h22=>?_) fun h22=>?_)
  ·
   refine Wp 27 [1,43,0] hs rfl<|Ah<|Zz results165 rfl ?_
   exact ⟨_,[],hs.done,rfl,congrArg (Value.int .i64) qU⟩
  refine Wp 4 [2,0] hs rfl<|Zg hs rfl (Yc rfl (fun h27=>?_) fun h27=>?_)
  ·
   refine Wp 22 [1,43,0] hs rfl<|Ah<|Zz results165 rfl ?_
   exact ⟨_,[],hs.done,rfl,congrArg (Value.int .i64) qU⟩
  refine Wp 4 [2,0] hs rfl<|Zg hs rfl (Yc rfl (fun h32=>?_) fun h32=>?_)
  ·
   refine Wp 17 [1,43,0] hs rfl<|Ah<|Zz results165 rfl ?_
   exact ⟨_,[],hs.done,rfl,congrArg (Value.int .i64) qU⟩
  refine Wp 4 [3,0] hs rfl<|Zg hs rfl (Yc rfl (fun h37=>?_) fun h37=>?_)
  ·
   refine Wp 12 [1,43,0] hs rfl<|Ah<|Zz results165 rfl ?_
   exact ⟨_,[],hs.done,rfl,congrArg (Value.int .i64) qU⟩
  refine Wp 4 [3,0] hs rfl<|Zg hs rfl (Yc rfl (fun h42=>?_) fun h42=>?_)
  ·
   refine Wp 7 [1,43,0] hs rfl<|Ah<|Zz results165 rfl ?_
   exact ⟨_,[],hs.done,rfl,congrArg (Value.int .i64) qU⟩
  refine Wp 8 [1,43,0] hs rfl<|Ah<|Zz results165 rfl ?_
  exact ⟨_,[],hs.done,rfl,congrArg (Value.int .i64) (by unfold dF;rw [if_neg oM])⟩
 refine Wp 44 [0,1,43,0] hs rfl<|Ah<|Zz results165 rfl ?_
 exact ⟨_,[],hs.done,rfl,congrArg (Value.int .i64) qU⟩
theorem jG {G:Ghost} {k:Int} :
  Ai prog 192 [Vi k] G [] fun r _ H'=>H'=[]∧r=tV k:=by
 refine Ai.of_T [(0,_)] func192 rfl ntmps192 sM rfl fun w0 hs =>Wt 16 [0,0] hs rfl<|Zy hs (Yc rfl (fun h8=>?_) fun h8=>?_)
 ·
  refine Wp 12 [0,0] hs rfl<|Ah ?_
  refine Bi (vs:=[_,_,_,_]) results192 rfl ⟨rfl,rfl,rfl,rfl,trivial⟩ ?_
  try dsimp only [tup]
  refine ⟨_,[],hs.done,rfl,?_⟩
  unfold tV Gr;first|(rw [if_pos oM]<;>rfl)|(rw [if_neg oM,if_pos oM]<;>rfl)|(rw [if_neg oM,if_neg oM,if_pos oM]<;>rfl)|(rw [if_neg oM,if_neg oM,if_neg oM,if_pos oM]<;>rfl)|(rw [if_neg oM,if_neg oM,if_neg oM,if_neg oM]<;>rfl)
 refine Wp 5 [0] hs rfl<|Zy hs (Yc rfl (fun h9=>?_) fun h9=>?_)
 ·
  refine Wp 12 [0,0] hs rfl<|Ah ?_
  refine Bi (vs:=[_,_,_,_]) results192 rfl ⟨rfl,rfl,rfl,rfl,trivial⟩ ?_
  try dsimp only [tup]
  refine ⟨_,[],hs.done,rfl,?_⟩
  unfold tV Gr;first|(rw [if_pos oM]<;>rfl)|(rw [if_neg oM,if_pos oM]<;>rfl)|(rw [if_neg oM,if_neg oM,if_pos oM]<;>rfl)|(rw [if_neg oM,if_neg oM,if_neg oM,if_pos oM]<;>rfl)|(rw [if_neg oM,if_neg oM,if_neg oM,if_neg oM]<;>rfl)
 refine Wp 5 [0] hs rfl<|Zy hs (Yc rfl (fun h10=>?_) fun h10=>?_)
 ·
  refine Wp 12 [0,0] hs rfl<|Ah ?_
  refine Bi (vs:=[_,_,_,_]) results192 rfl ⟨rfl,rfl,rfl,rfl,trivial⟩ ?_
  try dsimp only [tup]
  refine ⟨_,[],hs.done,rfl,?_⟩
  unfold tV Gr;first|(rw [if_pos oM]<;>rfl)|(rw [if_neg oM,if_pos oM]<;>rfl)|(rw [if_neg oM,if_neg oM,if_pos oM]<;>rfl)|(rw [if_neg oM,if_neg oM,if_neg oM,if_pos oM]<;>rfl)|(rw [if_neg oM,if_neg oM,if_neg oM,if_neg oM]<;>rfl)
 refine Wp 4 [0] hs rfl<|Zy hs (Yc rfl (fun h11=>?_) fun h11=>?_)
 ·
  refine Wp 10 [0,0] hs rfl<|Ah ?_
  refine Bi (vs:=[_,_,_,_]) results192 rfl ⟨rfl,rfl,rfl,rfl,trivial⟩ ?_
  try dsimp only [tup]
  refine ⟨_,[],hs.done,rfl,?_⟩
  unfold tV Gr;first|(rw [if_pos oM]<;>rfl)|(rw [if_neg oM,if_pos oM]<;>rfl)|(rw [if_neg oM,if_neg oM,if_pos oM]<;>rfl)|(rw [if_neg oM,if_neg oM,if_neg oM,if_pos oM]<;>rfl)|(rw [if_neg oM,if_neg oM,if_neg oM,if_neg oM]<;>rfl)
 refine Wp 6 [0] hs rfl<|Zy hs (Yc rfl (fun h13=>?_) fun h13=>?_)
 ·
  refine Wp 12 [0,4,2,3,4,5] hs rfl<|Ah ?_
  refine Bi (vs:=[_,_,_,_]) results192 rfl ⟨rfl,rfl,rfl,rfl,trivial⟩ ?_
  try dsimp only [tup]
  refine ⟨_,[],hs.done,rfl,?_⟩
  unfold tV Gr;first|(rw [if_pos oM]<;>rfl)|(rw [if_neg oM,if_pos oM]<;>rfl)|(rw [if_neg oM,if_neg oM,if_pos oM]<;>rfl)|(rw [if_neg oM,if_neg oM,if_neg oM,if_pos oM]<;>rfl)|(rw [if_neg oM,if_neg oM,if_neg oM,if_neg oM]<;>rfl)
 refine Wp 4 [0] hs rfl<|Zy hs (Yc rfl (fun h14=>?_) fun h14=>?_)
 ·
  refine Wp 10 [0,4,2,3,4,5] hs rfl<|Ah ?_
  refine Bi (vs:=[_,_,_,_]) results192 rfl ⟨rfl,rfl,rfl,rfl,trivial⟩ ?_
  try dsimp only [tup]
  refine ⟨_,[],hs.done,rfl,?_⟩
  unfold tV Gr;first|(rw [if_pos oM]<;>rfl)|(rw [if_neg oM,if_pos oM]<;>rfl)|(rw [if_neg oM,if_neg oM,if_pos oM]<;>rfl)|(rw [if_neg oM,if_neg oM,if_neg oM,if_pos oM]<;>rfl)|(rw [if_neg oM,if_neg oM,if_neg oM,if_neg oM]<;>rfl)
 refine Wp 5 [0] hs rfl<|Zy hs (Yc rfl (fun h16=>?_) fun h16=>?_)
 ·
  refine Wp 10 [2,6,15,0] hs rfl<|Ah ?_
  refine Bi (vs:=[_,_,_,_]) results192 rfl ⟨rfl,rfl,rfl,rfl,trivial⟩ ?_
  try dsimp only [tup]
  refine ⟨_,[],hs.done,rfl,?_⟩
  unfold tV Gr;first|(rw [if_pos oM]<;>rfl)|(rw [if_neg oM,if_pos oM]<;>rfl)|(rw [if_neg oM,if_neg oM,if_pos oM]<;>rfl)|(rw [if_neg oM,if_neg oM,if_neg oM,if_pos oM]<;>rfl)|(rw [if_neg oM,if_neg oM,if_neg oM,if_neg oM]<;>rfl)
 refine Wp 5 [2,6,15] hs rfl<|Zy hs (Yc rfl (fun h18=>?_) fun h18=>?_)
 ·
  refine Wp 10 [0,0] hs rfl<|Ah ?_
  refine Bi (vs:=[_,_,_,_]) results192 rfl ⟨rfl,rfl,rfl,rfl,trivial⟩ ?_
  try dsimp only [tup]
  refine ⟨_,[],hs.done,rfl,?_⟩
  unfold tV Gr;first|(rw [if_pos oM]<;>rfl)|(rw [if_neg oM,if_pos oM]<;>rfl)|(rw [if_neg oM,if_neg oM,if_pos oM]<;>rfl)|(rw [if_neg oM,if_neg oM,if_neg oM,if_pos oM]<;>rfl)|(rw [if_neg oM,if_neg oM,if_neg oM,if_neg oM]<;>rfl)
 refine Wp 11 [0,0] hs rfl<|Ah ?_
 refine Bi (vs:=[_,_,_,_]) results192 rfl ⟨rfl,rfl,rfl,rfl,trivial⟩ ?_
 try dsimp only [tup]
 refine ⟨_,[],hs.done,rfl,?_⟩
 unfold tV Gr;first|(rw [if_pos oM]<;>rfl)|(rw [if_neg oM,if_pos oM]<;>rfl)|(rw [if_neg oM,if_neg oM,if_pos oM]<;>rfl)|(rw [if_neg oM,if_neg oM,if_neg oM,if_pos oM]<;>rfl)|(rw [if_neg oM,if_neg oM,if_neg oM,if_neg oM]<;>rfl)
theorem valid_n {G:Ghost} {v:Value} {o:kO} (ho:OpR G v o) (hz:Gr o.kind=none) :
  Ai prog 164 [v] G [] fun r _ H'=>H'=[]∧r=Vi (if Ki o=true then 0 else 1):=by
 obtain ⟨u1,u2,rfl,ho1,ho2⟩:=ho
 obtain ⟨A1,c1,rfl,_⟩:=id ho1
 obtain ⟨A2,c2,rfl,_⟩:=id ho2
 refine Ai.of_T [(0,_)] func164 rfl ntmps164 sM rfl fun w0 hs =>Wt 2 [] hs rfl<|O_s (Sb hs rfl fun b1 _ hs=>Wp 6 [0,0,0] hs rfl<|O_s (Sc (jG) hs rfl fun v1 G' H' _ hR hG10 hs=>?_))
 obtain ⟨rfl,rfl⟩:=hR
 replace hs:=hs.n rfl
 unfold tV;rw [hz]
 refine Wp 42 [0,1,37,0] hs rfl<|Ah<|Zz results164 rfl ?_
 exact ⟨_,[],hs.done,rfl,congrArg (Value.int .i64) (if_neg (vE hz)).symm⟩
theorem valid_s {G:Ghost} {v:Value} {o:kO} {l m f:Nat} (ho:OpR G v o) (hz:Gr o.kind=some (l,m,f)) :
  Ai prog 164 [v] G [] fun r _ H'=>H'=[]∧r=Vi (if Ki o=true then 0 else 1):=by
 obtain ⟨u1,u2,rfl,ho1,ho2⟩:=ho
 obtain ⟨A1,c1,rfl,_⟩:=id ho1
 obtain ⟨A2,c2,rfl,_⟩:=id ho2
 refine Ai.of_T [(0,_)] func164 rfl ntmps164 sM rfl fun w0 hs =>Wt 2 [] hs rfl<|O_s (Sb hs rfl fun b1 _ hs=>Wp 6 [0,0,0] hs rfl<|O_s (Sc (jG) hs rfl fun v1 G' H' _ hR hG10 hs=>?_))
 obtain ⟨rfl,rfl⟩:=hR
 replace hs:=hs.n rfl
 unfold tV;rw [hz]
 refine Wp 20 [0,1,0] hs rfl<|Zg hs rfl (Yc rfl (fun h22=>?_) fun h22=>?_)
 ·
  refine Wp 21 [1,37,0] hs rfl<|Ah<|Zz results164 rfl ?_
  exact ⟨_,[],hs.done,rfl,congrArg (Value.int .i64) (if_neg (Zc hz oM)).symm⟩
 refine Wp 6 [1,0] hs rfl<|Zg hs rfl (Yc rfl (fun h29=>?_) fun h29=>?_)
 ·
  refine Wp 14 [1,37,0] hs rfl<|Ah<|Zz results164 rfl ?_
  exact ⟨_,[],hs.done,rfl,congrArg (Value.int .i64) (if_neg (Zc hz oM)).symm⟩
 refine Wp 6 [2,0] hs rfl<|Zg hs rfl (Yc rfl (fun h36=>?_) fun h36=>?_)
 ·
  refine Wp 7 [1,37,0] hs rfl<|Ah<|Zz results164 rfl ?_
  exact ⟨_,[],hs.done,rfl,congrArg (Value.int .i64) (if_neg (Zc hz oM)).symm⟩
 refine Wp 8 [1,37,0] hs rfl<|Ah<|Zz results164 rfl ?_
 exact ⟨_,[],hs.done,rfl,congrArg (Value.int .i64) (if_pos (vD hz oM)).symm⟩
theorem opv_ok {G:Ghost} {v:Value} {o:kO} (ho:OpR G v o) :
    Ai prog 164 [v] G [] fun r _ H'=>H'=[]∧r=Vi (if Ki o=true then 0 else 1):=by
  rcases hz:Gr o.kind with _ | ⟨l,m,f⟩
  · exact valid_n ho hz
  · exact valid_s ho hz
theorem eZ {l:List Ef} (h:Ps l):Kj l=0∧l.length≤1000000000:=by rcases h with rfl | rfl | rfl<;>decide
theorem wY {G:Ghost} {v:Value} {p0 p1:Kt} (hp:vS G v [p0,p1]) (h0:Ps p0.r) (h1:Ps p1.r) (hT:Tab G) :
  Ai prog 193 [v] G [] fun r _ H'=>H'=[]∧∃ u,r=.tuple #[u,Vi 0]:=by
 obtain ⟨Ap,cp,rfl⟩:∃ A c,v=.slice A 2 c:=Be.slice hp
 change vS _ (.slice Ap 2 cp) _ at hp
 refine Ai.of_T [(0,_)] func193 rfl ntmps193 sM rfl fun w0 hs=>?_
 have hp0:=hp
 have hT0:=hT
 refine Wt 27 [0,0,0] hs rfl<|O_s (nY (n:=2) hs underlying271 TI250 rfl rfl dC dC (cs:=[Vn,Vn,Vn,Vn,Vn,Vn]) kR fun b18 _ hs =>Wp 9 [0,0] hs rfl<|Dp (Ej 3 (L:=[(4,_),(19,_),(20,_),(21,_)]) ⟨rfl,rfl,rfl,rfl,trivial⟩ (Gn<|Wt 12 [0] hs rfl<|Zy hs (Bv hp 0 underlying131 sizeOf145 rfl rfl rfl (by show _<2;decide) fun p24 c24 hp24 hc24 hR24=>?_))))
 obtain ⟨vx,hec0,hrx0⟩:=hR24
 change Rx _ vx p0.r at hrx0
 obtain ⟨Ax0,cx0,rfl⟩:∃ A c,vx=.slice A p0.r.length c:=Be.slice hrx0
 refine Zy hs (Cu (vs:=[.slice Ax0 p0.r.length cx0,.bool p0.lz]) isAgg145 sizeOf145 rfl (hec0▸hp24) rfl<|O_s (Sa hs zeroValue145 rfl fun b6 _ hs=>Wp 1 [] hs rfl<|O_n (Es hs sizeOf145 rfl rfl (vs:=[_,_]) rfl (rfl) sM (cs':=[_,_]) rfl fun _ hs =>Wp 6 [0,0,0] hs rfl<|O_s (Sc (mH hrx0 (eZ h0).2) hs rfl fun v1 G' H' _ hR hG28 hs=>?_))))
 obtain ⟨rfl,rfl⟩:=hR
 replace hs:=hs.n rfl
 replace hp:=hp.mono hG28
 replace hT:=hT.mono hG28
 replace hrx0:=hrx0.mono hG28
 rw [(eZ h0).1]
 refine Wp 13 [0,0,0,0] hs rfl<|O_s (Sc (aQ h0 hT hrx0) hs rfl fun v2 G' H' _ hR hG35 hs=>?_)
 obtain ⟨rfl,vd,Dx,rfl,hz⟩:=hR
 replace hs:=hs.n rfl
 replace hp:=hp.mono hG35
 replace hT:=hT.mono hG35
 obtain ⟨vc,vn,va,rfl,hzC,hzN,hzA⟩:=hz
 obtain ⟨Cz,cz,rfl⟩:=Be.slice hzC
 obtain ⟨Nz,nz,rfl⟩:=Be.slice hzN
 obtain ⟨Az,az,rfl,_⟩:=id hzA
 refine Wp 3 [] hs rfl<|O_s (Sa hs zeroValue250 rfl fun b8 _ hs=>O_n (Es hs sizeOf250 rfl rfl (vs:=[_,_,_]) rfl (rfl) sM (cs':=[_,_,_]) rfl fun _ hs =>Wp 14 [0,8,4,5,8,9,19,20,21,39,0] hs rfl<|Zy hs (Lk 0 underlying271 sizeOf250 rfl rfl rfl dC (m:=0) rfl<|O_n (Es hs.f2 sizeOf250 rfl rfl (vs:=[_,_,_]) rfl (rfl) sM (cs':=[_,_,_,_,_,_]) rfl fun _ hs =>Wp 2 [0] hs rfl<|Zy hs (Eb (c:=(1)) rfl rfl dC dC<|Wp 1 [] hs rfl<|Cl ⟨[(4,_),(19,_),(20,_),(21,_)],⟨rfl,rfl,rfl,rfl,trivial⟩,Gn ?_⟩)))))
 refine Wt 12 [0] hs rfl<|Zy hs (Bv hp 1 underlying131 sizeOf145 rfl rfl rfl (by show _<2;decide) fun p24 c24 hp24 hc24 hR24=>?_)
 obtain ⟨vx,hec1,hrx1⟩:=hR24
 change Rx _ vx p1.r at hrx1
 obtain ⟨Ax1,cx1,rfl⟩:∃ A c,vx=.slice A p1.r.length c:=Be.slice hrx1
 refine Zy hs (Cu (vs:=[.slice Ax1 p1.r.length cx1,.bool p1.lz]) isAgg145 sizeOf145 rfl (hec1▸hp24) rfl<|O_s (Sa hs zeroValue145 rfl fun b6 _ hs=>Wp 1 [] hs rfl<|O_n (Es hs sizeOf145 rfl rfl (vs:=[_,_]) rfl (rfl) sM (cs':=[_,_]) rfl fun _ hs =>Wp 6 [0,0,0] hs rfl<|O_s (Sc (mH hrx1 (eZ h1).2) hs rfl fun v3 G' H' _ hR hG28 hs=>?_))))
 obtain ⟨rfl,rfl⟩:=hR
 replace hs:=hs.n rfl
 replace hT:=hT.mono hG28
 replace hrx1:=hrx1.mono hG28
 rw [(eZ h1).1]
 refine Wp 13 [0,8,4,5,6,7,19,20,21,30,0,0] hs rfl<|O_s (Sc (aQ h1 hT hrx1) hs rfl fun v4 G' H' _ hR hG35 hs=>?_)
 obtain ⟨rfl,vd,Dx,rfl,hz⟩:=hR
 replace hs:=hs.n rfl
 obtain ⟨vc,vn,va,rfl,hzC,hzN,hzA⟩:=hz
 obtain ⟨Cz,cz,rfl⟩:=Be.slice hzC
 obtain ⟨Nz,nz,rfl⟩:=Be.slice hzN
 obtain ⟨Az,az,rfl,_⟩:=id hzA
 refine Wp 3 [] hs rfl<|O_s (Sa hs zeroValue250 rfl fun b8 _ hs=>O_n (Es hs sizeOf250 rfl rfl (vs:=[_,_,_]) rfl (rfl) sM (cs':=[_,_,_]) rfl fun _ hs =>Wp 14 [0,0,0] hs rfl<|Zy hs (Lk 1 underlying271 sizeOf250 rfl rfl rfl dC (m:=3) rfl<|O_n (Es hs.f2 sizeOf250 rfl rfl (vs:=[_,_,_]) rfl (rfl) sM (cs':=[_,_,_,_,_,_]) rfl fun _ hs =>Wp 2 [0] hs rfl<|Zy hs (Eb (c:=(2)) rfl rfl dC dC<|Wp 1 [] hs rfl<|Cl ⟨[(4,_),(19,_),(20,_),(21,_)],⟨rfl,rfl,rfl,rfl,trivial⟩,Gn ?_⟩)))))
 refine Wt 7 [5,4,19,20,21,22] hs rfl<|Wu 6 [0] hs rfl<|Ah ?_
 refine Bi (vs:=[_,_]) results193 rfl ⟨rfl,rfl,trivial⟩ ?_
 try dsimp only [tup]
 exact ⟨_,[],hs.done,rfl,_,rfl⟩
theorem pval_ok {G:Ghost} {v:Value} {p0 p1:Kt} (hp:vS G v [p0,p1]) (h0:Ps p0.r) (h1:Ps p1.r) (hT:Tab G) :
  Ai prog 166 [v] G [] fun r _ H'=>H'=[]∧r=Vi 0:=by
 refine Ai.of_T [(0,_)] func166 rfl ntmps166 sM rfl fun w0 hs=>?_
 have hp0:=hp
 have hT0:=hT
 refine Wt 7 [0] hs rfl<|O_s (Sc (wY hp h0 h1 hT) hs rfl fun v1 G' H' _ hR hG7 hs=>?_)
 obtain ⟨rfl,u,rfl⟩:=hR
 replace hs:=hs.n rfl
 refine Wp 11 [0,0] hs rfl<|Ah<|Zz results166 rfl ?_
 exact ⟨_,[],hs.done,rfl,rfl⟩
theorem Hg {P : Program} {w : World} {d : Nat} {xs ys : Array Value} {f : Field} {fs : List Field} {u v : Value} {b : Bool} (hn : f.name ≠ "_") (hx : (part f.type xs f.offset).run P w = .ok u w) (hy : (part f.type ys f.offset).run P w = .ok v w) (h : (Op.equalIn d f.type u v).run P w = .ok b w) :
    (Op.eqFields d xs ys (f::fs)).run P w=if b=true then (Op.eqFields d xs ys fs).run P w else .ok false w:=by
  simp only [Op.eqFields,Sem.run_bind,Sem.run_ite,if_pos hn,hx,hy,h,Result.andThen_ok]
  cases b<;>simp
def Sp (q:Of):Value:=.agg #[Vi q.base,Vi q.digits,Vi q.top,Vi q.over,.bool q.zeros]
theorem rule_eq {w:World} (dd:Nat) (p q:Of):(Op.equalIn (dd+2) 129 (Sp p) (Sp q)).run prog w=.ok (decide (p=q)) w:=by
  unfold Sp
  rw [run_equalIn_struct w (dd+1) 129 _ _ kR kR]
  have hf : (prog.fieldsOf 129).toList = [{ name := "Base", type := 3, offset := 0, embedded := false, tag := "", pkgPath := "", byteOffset := 0 }, { name := "Digits", type := 3, offset := 1, embedded := false, tag := "", pkgPath := "", byteOffset := 8 }, { name := "Top", type := 3, offset := 2, embedded := false, tag := "", pkgPath := "", byteOffset := 16 }, { name := "Over", type := 3, offset := 3, embedded := false, tag := "", pkgPath := "", byteOffset := 24 }, { name := "Zeros", type := 4, offset := 4, embedded := false, tag := "", pkgPath := "", byteOffset := 32 }] := by kernel_rfl
  rw [hf]
  obtain ⟨a,b,c,d,e⟩:=p
  obtain ⟨a',b',c',d',e'⟩:=q
  dsimp only
  refine Eq.trans (Hg (u:=Vi a) (v:=Vi a') (b:=a == a') dC (Gq isAgg3 rfl) (Gq isAgg3 rfl) (run_equalIn_int w dd 3 _ _ _ _ underlying3)) ?_
  by_cases ha:a=a'
  case neg=>simp [ha]
  subst ha
  rw [if_pos sM]
  refine Eq.trans (Hg (u:=Vi b) (v:=Vi b') (b:=b == b') dC (Gq isAgg3 rfl) (Gq isAgg3 rfl) (run_equalIn_int w dd 3 _ _ _ _ underlying3)) ?_
  by_cases hb:b=b'
  case neg=>simp [hb]
  subst hb
  rw [if_pos sM]
  refine Eq.trans (Hg (u:=Vi c) (v:=Vi c') (b:=c == c') dC (Gq isAgg3 rfl) (Gq isAgg3 rfl) (run_equalIn_int w dd 3 _ _ _ _ underlying3)) ?_
  by_cases hc:c=c'
  case neg=>simp [hc]
  subst hc
  rw [if_pos sM]
  refine Eq.trans (Hg (u:=Vi d) (v:=Vi d') (b:=d == d') dC (Gq isAgg3 rfl) (Gq isAgg3 rfl) (run_equalIn_int w dd 3 _ _ _ _ underlying3)) ?_
  by_cases hd:d=d'
  case neg=>simp [hd]
  subst hd
  rw [if_pos sM]
  refine Eq.trans (Hg (u:=.bool e) (v:=.bool e') (b:=e == e') dC (Gq isAgg4 rfl) (Gq isAgg4 rfl) (run_equalIn_bool' w dd 4 _ _ underlying4)) ?_
  by_cases he:e=e'
  case neg=>simp [he]
  subst he
  rw [if_pos sM]
  simp [Op.eqFields]
section
variable {x:Cx} {W:World→Prop} {E:Env} {K:Value→Prop} {d:Option Tmp} {ty:TypeId} {pos:String} {aft:Array Edge} {g:Option (Nat×Bool)} {yt:TypeId} {o q:Operand}
theorem sF {a b:Of} (hP:x.P=prog) (hg:x.P.eqGuardType x.P.depth 129=false) (h1:ev E o=some (Sp a)) (h2:ev E q=some (Sp b)) (kt:a=b→K (Vt)) (kf:¬ a=b→K (Vf)):Y x W ⟨d,.binOp .eql 129 o q yt,ty,pos,aft,g⟩ E K :=
  De (v:=.bool (decide (a=b))) (fun f hf w _=>by
    have h':(binOp .eql 129 (Sp a) (Sp b)).run x.P w=.ok (.bool (decide (a=b))) w:=by
      have:=rule_eq (w:=w) 9998 a b
      rw [hP]
      unfold Sp at this ⊢
      rw [run_eql_struct,this];rfl
    unfold Sp at h1 h2 h'
    simp only [execOp,hf.ev h1,hf.ev h2,Sem.run_bind,run_eqGuard_agg w _ _ _ _ _ _ hg,Result.andThen_ok,h',Sem.run_pure]) (by
    by_cases h:a=b
    · simpa [h] using kt h
    · simpa [h] using kf h)
end
theorem wZ:places prog 124=some [(0,1),(1,1),(2,1)]:=by kernel_rfl
theorem xA:places prog 129=some [(0,1),(1,1),(2,1),(3,1),(4,1)]:=by kernel_rfl
theorem xB:places prog 135=some [(0,1),(1,1),(2,1),(3,1),(4,1),(5,1),(6,1)]:=by kernel_rfl
theorem Nh {G:Ghost} {k:Int} :
  Ai prog 240 [Vi k] G [] fun r _ H'=>H'=[]∧r=.bool (aB k):=by
 refine Ai.of_T [(0,_)] func240 rfl ntmps240 sM rfl fun w0 hs =>Wt 13 [0,0] hs rfl<|Zy hs (Yc rfl (fun h5=>?_) fun h5=>?_)
 ·
  refine Wp 9 [0,0] hs rfl<|Ah<|Zz results240 rfl ?_
  exact ⟨_,[],hs.done,rfl,congrArg Value.bool Z24⟩
 refine Wp 5 [0] hs rfl<|Zy hs (Yc rfl (fun h6=>?_) fun h6=>?_)
 ·
  refine Wp 9 [0,0] hs rfl<|Ah<|Zz results240 rfl ?_
  exact ⟨_,[],hs.done,rfl,congrArg Value.bool Z24⟩
 refine Wp 5 [0] hs rfl<|Zy hs (Yc rfl (fun h7=>?_) fun h7=>?_)
 ·
  refine Wp 9 [0,0] hs rfl<|Ah<|Zz results240 rfl ?_
  exact ⟨_,[],hs.done,rfl,congrArg Value.bool Z24⟩
 refine Wp 5 [0] hs rfl<|Zy hs (Yc rfl (fun h8=>?_) fun h8=>?_)
 ·
  refine Wp 9 [0,0] hs rfl<|Ah<|Zz results240 rfl ?_
  exact ⟨_,[],hs.done,rfl,congrArg Value.bool Z24⟩
 refine Wp 5 [0] hs rfl<|Zy hs (Yc rfl (fun h9=>?_) fun h9=>?_)
 ·
  refine Wp 9 [0,0] hs rfl<|Ah<|Zz results240 rfl ?_
  exact ⟨_,[],hs.done,rfl,congrArg Value.bool Z24⟩
 refine Wp 4 [0] hs rfl<|Zy hs (Yc rfl (fun h10=>?_) fun h10=>?_)
 ·
  refine Wp 7 [0,0] hs rfl<|Ah<|Zz results240 rfl ?_
  exact ⟨_,[],hs.done,rfl,congrArg Value.bool Z24⟩
 refine Wp 8 [0,0] hs rfl<|Ah<|Zz results240 rfl ?_
 exact ⟨_,[],hs.done,rfl,congrArg Value.bool (by unfold aB;exact (decide_eq_false oM).symm)⟩
theorem xC {G:Ghost} {x y:Int} :
  Ai prog 220 [.agg #[Vi 1,Vi x,Vi y,Vi 0,Vi 0,Vi 0,Vi 0,Vn,Vf,Vi 0,Vn,Vn,Af 0,Af 0,Af 0,Af 0,Vi 0,Vi 0,Vi 0,Vi 0,Vf,Vn,Vn,Vi 0,Vf,Vi 0,Vi 0,Vi 0,Vi 0,Vn,.string ⟨[].toArray⟩,Vi (-1),Vi (-1)]] G [] fun r _ H'=>H'=[]∧r=.agg #[Vi 1,Vi 0,Vi 0,Vi 0,Vi 0,Vi 0,Vi 0,Vn,Vf,Vi 0,Vn,Vn,Af 0,Af 0,Af 0,Af 0,Vi 0,Vi 0,Vi 0,Vi 0,Vf,Vn,Vn,Vi 0,Vf,Vi 0,Vi 0,Vi 0,Vi 0,Vn,.string ⟨[].toArray⟩,Vi (-1),Vi (-1)]:=by
 refine Ai.of_T [(0,_)] func220 rfl ntmps220 sM rfl fun w0 hs =>Wt 2 [] hs rfl<|O_s (Sb hs rfl fun b1 _ hs=>O_s (Sa hs zeroValue137 rfl fun b2 _ hs=>Wp 6 [0,0,1] hs rfl<|O_s (Sc (Nh (k:=1)) hs rfl fun v1 G' H' _ hR hG5 hs=>?_)))
 obtain ⟨rfl,rfl⟩:=hR
 replace hs:=hs.n rfl
 refine Wp 27 [32,1,0,1,0,1,31,1,3,1,2,26,31] hs rfl<|O_n (Sd hs.f1 rfl rfl fun _ hs=>Wp 1 [32] hs rfl<|O_n (Sd hs rfl rfl fun _ hs=>Wp 19 [0,0,0,0,0,1] hs rfl<|O_n (Sd hs rfl rfl fun _ hs=>Wp 1 [2] hs rfl<|O_n (Sd hs rfl rfl fun _ hs=>Wp 78 [0,0,0,0,0,0,0,0,0,4,1,2,56,73,0,0,0,0,0,0] hs rfl<|O_n (Sg hs.f1 rfl (rfl) fun _ hs=>Wp 1 [0] hs rfl<|Ah<|Zz results220 (Rb 0 hs rfl rF) ?_)))))
 exact ⟨_,[],hs.done,rfl,rfl⟩
theorem xD {G:Ghost} {x y z els:Int} {Ab:Option Addr} {cb:Nat} {b:List UInt8} {la:Bool} :
  Ai prog 220 [.agg #[Vi 3,Vi x,Vi y,Vi z,Vi 0,Vi 0,Vi 0,.slice Ab b.length cb,.bool la,Vi 0,Vn,Vn,Af 0,Af 0,Af 0,Af 0,Vi 0,Vi 0,Vi 0,Vi 0,Vf,Vn,Vn,Vi 0,Vf,Vi 0,Vi 0,Vi 0,Vi 0,Vn,.string ⟨[].toArray⟩,Vi (-1),Vi els]] G [] fun r _ H'=>H'=[]∧r=.agg #[Vi 3,Vi 0,Vi 0,Vi 0,Vi 0,Vi 0,Vi 0,Vn,Vf,Vi 0,Vn,Vn,Af 0,Af 0,Af 0,Af 0,Vi 0,Vi 0,Vi 0,Vi 0,Vf,Vn,Vn,Vi 0,Vf,Vi 0,Vi 0,Vi 0,Vi 0,Vn,.string ⟨[].toArray⟩,Vi (-1),Vi (-1)]:=by
 refine Ai.of_T [(0,_)] func220 rfl ntmps220 sM rfl fun w0 hs =>Wt 2 [] hs rfl<|O_s (Sb hs rfl fun b1 _ hs=>O_s (Sa hs zeroValue137 rfl fun b2 _ hs=>Wp 6 [0,0,1] hs rfl<|O_s (Sc (Nh (k:=3)) hs rfl fun v1 G' H' _ hR hG5 hs=>?_)))
 obtain ⟨rfl,rfl⟩:=hR
 replace hs:=hs.n rfl
 refine Wp 27 [0,1,0,1,31,1,3,1,2,26,31] hs rfl<|O_n (Sd hs.f1 rfl rfl fun _ hs=>Wp 1 [32] hs rfl<|O_n (Sd hs rfl rfl fun _ hs=>Wp 49 [0,0,0,0,0,0,0,0,0,0,1] hs rfl<|O_n (Sd hs rfl rfl fun _ hs=>Wp 1 [2] hs rfl<|O_n (Sd hs rfl rfl fun _ hs=>Wp 1 [3] hs rfl<|O_n (Sd hs rfl rfl fun _ hs=>Wp 16 [0,0,0,0,4,1,2,56,57,7] hs rfl<|O_n (Sd hs rfl rfl fun _ hs=>Wp 1 [8] hs rfl<|O_n (Sd hs rfl rfl fun _ hs=>Wp 4 [0,0] hs rfl<|O_n (Sg hs.f1 rfl (rfl) fun _ hs=>Wp 1 [0] hs rfl<|Ah<|Zz results220 (Rb 0 hs rfl rF) ?_))))))))
 exact ⟨_,[],hs.done,rfl,rfl⟩
theorem xE {G:Ghost} {x y i j:Int} :
  Ai prog 220 [.agg #[Vi 4,Vi x,Vi y,Vi 0,Vi 0,Vi i,Vi j,Vn,Vf,Vi 0,Vn,Vn,Af 0,Af 0,Af 0,Af 0,Vi 0,Vi 0,Vi 0,Vi 0,Vf,Vn,Vn,Vi 0,Vf,Vi 0,Vi 0,Vi 0,Vi 0,Vn,.string ⟨[].toArray⟩,Vi (-1),Vi (-1)]] G [] fun r _ H'=>H'=[]∧r=.agg #[Vi 4,Vi 0,Vi 0,Vi 0,Vi 0,Vi 0,Vi 0,Vn,Vf,Vi 0,Vn,Vn,Af 0,Af 0,Af 0,Af 0,Vi 0,Vi 0,Vi 0,Vi 0,Vf,Vn,Vn,Vi 0,Vf,Vi 0,Vi 0,Vi 0,Vi 0,Vn,.string ⟨[].toArray⟩,Vi (-1),Vi (-1)]:=by
 refine Ai.of_T [(0,_)] func220 rfl ntmps220 sM rfl fun w0 hs =>Wt 2 [] hs rfl<|O_s (Sb hs rfl fun b1 _ hs=>O_s (Sa hs zeroValue137 rfl fun b2 _ hs=>Wp 6 [0,0,1] hs rfl<|O_s (Sc (Nh (k:=4)) hs rfl fun v1 G' H' _ hR hG5 hs=>?_)))
 obtain ⟨rfl,rfl⟩:=hR
 replace hs:=hs.n rfl
 refine Wp 27 [32,1,0,1,0,1,31,1,3,1,2,26,31] hs rfl<|O_n (Sd hs.f1 rfl rfl fun _ hs=>Wp 1 [32] hs rfl<|O_n (Sd hs rfl rfl fun _ hs=>Wp 34 [0,0,0,0,0,0,0,0,1] hs rfl<|O_n (Sd hs rfl rfl fun _ hs=>Wp 1 [2] hs rfl<|O_n (Sd hs rfl rfl fun _ hs=>Wp 25 [0,0,0,0,0,0,5] hs rfl<|O_n (Sd hs rfl rfl fun _ hs=>Wp 1 [6] hs rfl<|O_n (Sd hs rfl rfl fun _ hs=>Wp 4 [2,1,2,0] hs rfl<|O_n (Sg hs.f1 rfl (rfl) fun _ hs=>Wp 1 [0] hs rfl<|Ah<|Zz results220 (Rb 0 hs rfl rF) ?_)))))))
 exact ⟨_,[],hs.done,rfl,rfl⟩
theorem xF {G:Ghost} {x y els:Int} {A1 A2:Option Addr} {k1 k2:Nat} {o:kO} :
  Ai prog 220 [.agg #[Vi 6,Vi x,Vi y,Vi 0,Vi 0,Vi 0,Vi 0,Vn,Vf,Vi o.kind,.slice A1 o.old.length k1,.slice A2 o.new.length k2,Af 0,Af 0,Af 0,Af 0,Vi 0,Vi 0,Vi 0,Vi 0,Vf,Vn,Vn,Vi 0,Vf,Vi 0,Vi 0,Vi 0,Vi 0,Vn,.string ⟨[].toArray⟩,Vi (-1),Vi els]] G [] fun r _ H'=>H'=[]∧r=.agg #[Vi 6,Vi 0,Vi 0,Vi 0,Vi 0,Vi 0,Vi 0,Vn,Vf,Vi 0,Vn,Vn,Af 0,Af 0,Af 0,Af 0,Vi 0,Vi 0,Vi 0,Vi 0,Vf,Vn,Vn,Vi 0,Vf,Vi 0,Vi 0,Vi 0,Vi 0,Vn,.string ⟨[].toArray⟩,Vi (-1),Vi (-1)]:=by
 refine Ai.of_T [(0,_)] func220 rfl ntmps220 sM rfl fun w0 hs =>Wt 2 [] hs rfl<|O_s (Sb hs rfl fun b1 _ hs=>O_s (Sa hs zeroValue137 rfl fun b2 _ hs=>Wp 6 [0,0,1] hs rfl<|O_s (Sc (Nh (k:=6)) hs rfl fun v1 G' H' _ hR hG5 hs=>?_)))
 obtain ⟨rfl,rfl⟩:=hR
 replace hs:=hs.n rfl
 refine Wp 27 [0,1,0,1,31,1,3,1,2,26,31] hs rfl<|O_n (Sd hs.f1 rfl rfl fun _ hs=>Wp 1 [32] hs rfl<|O_n (Sd hs rfl rfl fun _ hs=>Wp 25 [0,0,0,0,0,0,1] hs rfl<|O_n (Sd hs rfl rfl fun _ hs=>Wp 1 [2] hs rfl<|O_n (Sd hs rfl rfl fun _ hs=>Wp 39 [0,0,0,0,0,0,0,0,4,1,2,56,69] hs rfl<|Zy hs (Ba zeroValue124 rfl wZ rfl (cs:=[_,_,_]) rfl<|Wp 1 [9] hs rfl<|O_n (Sg hs rfl (rfl) fun _ hs=>Wp 4 [0,0] hs rfl<|O_n (Sg hs.f1 rfl (rfl) fun _ hs=>Wp 1 [0] hs rfl<|Ah<|Zz results220 (Rb 0 hs rfl rF) ?_)))))))
 exact ⟨_,[],hs.done,rfl,rfl⟩
theorem xG {G:Ghost} {x y:Int} {c0 c1 c2 c3:Nat} :
  Ai prog 220 [.agg #[Vi 7,Vi x,Vi y,Vi 0,Vi 0,Vi 0,Vi 0,Vn,Vf,Vi 0,Vn,Vn,Af c0,Af c1,Af c2,Af c3,Vi 0,Vi 0,Vi 0,Vi 0,Vf,Vn,Vn,Vi 0,Vf,Vi 0,Vi 0,Vi 0,Vi 0,Vn,.string ⟨[].toArray⟩,Vi (-1),Vi (-1)]] G [] fun r _ H'=>H'=[]∧r=.agg #[Vi 7,Vi 0,Vi 0,Vi 0,Vi 0,Vi 0,Vi 0,Vn,Vf,Vi 0,Vn,Vn,Af 0,Af 0,Af 0,Af 0,Vi 0,Vi 0,Vi 0,Vi 0,Vf,Vn,Vn,Vi 0,Vf,Vi 0,Vi 0,Vi 0,Vi 0,Vn,.string ⟨[].toArray⟩,Vi (-1),Vi (-1)]:=by
 refine Ai.of_T [(0,_)] func220 rfl ntmps220 sM rfl fun w0 hs =>Wt 2 [] hs rfl<|O_s (Sb hs rfl fun b1 _ hs=>O_s (Sa hs zeroValue137 rfl fun b2 _ hs=>Wp 6 [0,0,1] hs rfl<|O_s (Sc (Nh (k:=7)) hs rfl fun v1 G' H' _ hR hG5 hs=>?_)))
 obtain ⟨rfl,rfl⟩:=hR
 replace hs:=hs.n rfl
 refine Wp 27 [32,1,0,1,0,1,31,1,3,1,2,26,31] hs rfl<|O_n (Sd hs.f1 rfl rfl fun _ hs=>Wp 1 [32] hs rfl<|O_n (Sd hs rfl rfl fun _ hs=>Wp 31 [0,0,0,0,0,0,0,1] hs rfl<|O_n (Sd hs rfl rfl fun _ hs=>Wp 1 [2] hs rfl<|O_n (Sd hs rfl rfl fun _ hs=>Wp 45 [0,0,0,0,0,0,0,4,1,2,56,66,0,0] hs rfl<|Zy hs (Co underlying127 sizeOf125 zeroValue127 rfl rfl (cs:=[_,_,_,_]) rfl<|Wp 1 [12] hs rfl<|O_n (Sg hs rfl (rfl) fun _ hs=>Wp 4 [0,0] hs rfl<|O_n (Sg hs.f1 rfl (rfl) fun _ hs=>Wp 1 [0] hs rfl<|Ah<|Zz results220 (Rb 0 hs rfl rF) ?_)))))))
 exact ⟨_,[],hs.done,rfl,rfl⟩
theorem xH {G:Ghost} {x n els:Int} {q:Of} :
  Ai prog 220 [.agg #[Vi 8,Vi x,Vi 0,Vi 0,Vi n,Vi 0,Vi 0,Vn,Vf,Vi 0,Vn,Vn,Af 0,Af 0,Af 0,Af 0,Vi q.base,Vi q.digits,Vi q.top,Vi q.over,.bool q.zeros,Vn,Vn,Vi 0,Vf,Vi 0,Vi 0,Vi 0,Vi 0,Vn,.string ⟨[].toArray⟩,Vi (-1),Vi els]] G [] fun r _ H'=>H'=[]∧r=.agg #[Vi 8,Vi 0,Vi 0,Vi 0,Vi 0,Vi 0,Vi 0,Vn,Vf,Vi 0,Vn,Vn,Af 0,Af 0,Af 0,Af 0,Vi 0,Vi 0,Vi 0,Vi 0,Vf,Vn,Vn,Vi 0,Vf,Vi 0,Vi 0,Vi 0,Vi 0,Vn,.string ⟨[].toArray⟩,Vi (-1),Vi (-1)]:=by
 refine Ai.of_T [(0,_)] func220 rfl ntmps220 sM rfl fun w0 hs =>Wt 2 [] hs rfl<|O_s (Sb hs rfl fun b1 _ hs=>O_s (Sa hs zeroValue137 rfl fun b2 _ hs=>Wp 6 [0,0,1] hs rfl<|O_s (Sc (Nh (k:=8)) hs rfl fun v1 G' H' _ hR hG5 hs=>?_)))
 obtain ⟨rfl,rfl⟩:=hR
 replace hs:=hs.n rfl
 refine Wp 27 [0,1,0,1,31,1,3,1,2,26,31] hs rfl<|O_n (Sd hs.f1 rfl rfl fun _ hs=>Wp 1 [32] hs rfl<|O_n (Sd hs rfl rfl fun _ hs=>Wp 61 [0,0,0,0,0,0,0,0,0,0,0,0,1] hs rfl<|O_n (Sd hs rfl rfl fun _ hs=>Wp 51 [0,0,0,3,1,2,56,0,0,0,0,0,0,0] hs rfl<|Zy hs (Ba zeroValue129 rfl xA rfl (cs:=[_,_,_,_,_]) rfl<|Wp 1 [4] hs rfl<|O_n (Sd hs rfl rfl fun _ hs=>Wp 1 [16] hs rfl<|O_n (Sg hs rfl (rfl) fun _ hs=>Wp 4 [0,0] hs rfl<|O_n (Sg hs.f1 rfl (rfl) fun _ hs=>Wp 1 [0] hs rfl<|Ah<|Zz results220 (Rb 0 hs rfl rF) ?_)))))))
 exact ⟨_,[],hs.done,rfl,rfl⟩
theorem xI {G:Ghost} {x els:Int} {Ap Ay:Option Addr} {cp cy:Nat} {ys:List Int} :
  Ai prog 220 [.agg #[Vi 9,Vi x,Vi 0,Vi 0,Vi 0,Vi 0,Vi 0,Vn,Vf,Vi 0,Vn,Vn,Af 0,Af 0,Af 0,Af 0,Vi 0,Vi 0,Vi 0,Vi 0,Vf,.slice Ap 2 cp,.slice Ay ys.length cy,Vi 0,Vf,Vi 0,Vi 0,Vi 0,Vi 0,Vn,.string ⟨[].toArray⟩,Vi (-1),Vi els]] G [] fun r _ H'=>H'=[]∧r=.agg #[Vi 9,Vi 0,Vi 0,Vi 0,Vi 0,Vi 0,Vi 0,Vn,Vf,Vi 0,Vn,Vn,Af 0,Af 0,Af 0,Af 0,Vi 0,Vi 0,Vi 0,Vi 0,Vf,Vn,Vn,Vi 0,Vf,Vi 0,Vi 0,Vi 0,Vi 0,Vn,.string ⟨[].toArray⟩,Vi (-1),Vi (-1)]:=by
 refine Ai.of_T [(0,_)] func220 rfl ntmps220 sM rfl fun w0 hs =>Wt 2 [] hs rfl<|O_s (Sb hs rfl fun b1 _ hs=>O_s (Sa hs zeroValue137 rfl fun b2 _ hs=>Wp 6 [0,0,1] hs rfl<|O_s (Sc (Nh (k:=9)) hs rfl fun v1 G' H' _ hR hG5 hs=>?_)))
 obtain ⟨rfl,rfl⟩:=hR
 replace hs:=hs.n rfl
 refine Wp 27 [0,1,0,1,31,1,3,1,2,26,31] hs rfl<|O_n (Sd hs.f1 rfl rfl fun _ hs=>Wp 1 [32] hs rfl<|O_n (Sd hs rfl rfl fun _ hs=>Wp 67 [0,0,0,0,0,0,0,0,0,0,0,0,4,1,2,32,50,1] hs rfl<|O_n (Sd hs rfl rfl fun _ hs=>Wp 58 [0,0,0,0,0,0,0,0,0,0,0,0,21] hs rfl<|O_n (Sd hs rfl rfl fun _ hs=>Wp 1 [22] hs rfl<|O_n (Sd hs rfl rfl fun _ hs=>Wp 4 [2,1,2,0] hs rfl<|O_n (Sg hs.f1 rfl (rfl) fun _ hs=>Wp 1 [0] hs rfl<|Ah<|Zz results220 (Rb 0 hs rfl rF) ?_))))))
 exact ⟨_,[],hs.done,rfl,rfl⟩
theorem dS {G:Ghost} {thn els:Int} {k:Nc} {Ar:Option Addr} {cr:Nat} :
  Ai prog 220 [.agg #[Vi 10,Vi 0,Vi 0,Vi 0,Vi 0,Vi 0,Vi 0,Vn,Vf,Vi 0,Vn,Vn,Af 0,Af 0,Af 0,Af 0,Vi 0,Vi 0,Vi 0,Vi 0,Vf,Vn,Vn,Vi k.kind,.bool k.neg,Vi k.x,Vi k.y,Vi k.n,Vi k.k,.slice Ar k.r.length cr,.string ⟨[].toArray⟩,Vi thn,Vi els]] G [] fun r _ H'=>H'=[]∧r=.agg #[Vi 10,Vi 0,Vi 0,Vi 0,Vi 0,Vi 0,Vi 0,Vn,Vf,Vi 0,Vn,Vn,Af 0,Af 0,Af 0,Af 0,Vi 0,Vi 0,Vi 0,Vi 0,Vf,Vn,Vn,Vi 0,Vf,Vi 0,Vi 0,Vi 0,Vi 0,Vn,.string ⟨[].toArray⟩,Vi (-1),Vi (-1)]:=by
 refine Ai.of_T [(0,_)] func220 rfl ntmps220 sM rfl fun w0 hs =>Wt 2 [] hs rfl<|O_s (Sb hs rfl fun b1 _ hs=>O_s (Sa hs zeroValue137 rfl fun b2 _ hs=>Wp 6 [0,0,1] hs rfl<|O_s (Sc (Nh (k:=10)) hs rfl fun v1 G' H' _ hR hG5 hs=>?_)))
 obtain ⟨rfl,rfl⟩:=hR
 replace hs:=hs.n rfl
 refine Wp 27 [0,1,3,1,2,26,31] hs rfl<|O_n (Sd hs.f1 rfl rfl fun _ hs=>Wp 1 [32] hs rfl<|O_n (Sd hs rfl rfl fun _ hs=>Wp 131 [0,0,0,0,0,0,0,0,0,0,0,0,4,1,2,32,50,0,0,0,0,0,0,0,0,0,0,0,0,4,1,2,56,86] hs rfl<|Zy hs (Ba zeroValue135 rfl xB rfl (cs:=[_,_,_,_,_,_,_]) rfl<|Wp 1 [23] hs rfl<|O_n (Sg hs rfl (rfl) fun _ hs=>Wp 4 [0,0] hs rfl<|O_n (Sg hs.f1 rfl (rfl) fun _ hs=>Wp 1 [0] hs rfl<|Ah<|Zz results220 (Rb 0 hs rfl rF) ?_)))))
 exact ⟨_,[],hs.done,rfl,rfl⟩
theorem sG {G:Ghost} {i j thn:Int} :
  Ai prog 220 [.agg #[Vi 11,Vi 0,Vi 0,Vi 0,Vi 0,Vi i,Vi j,Vn,Vf,Vi 0,Vn,Vn,Af 0,Af 0,Af 0,Af 0,Vi 0,Vi 0,Vi 0,Vi 0,Vf,Vn,Vn,Vi 0,Vf,Vi 0,Vi 0,Vi 0,Vi 0,Vn,.string ⟨[].toArray⟩,Vi thn,Vi (-1)]] G [] fun r _ H'=>H'=[]∧r=.agg #[Vi 11,Vi 0,Vi 0,Vi 0,Vi 0,Vi 0,Vi 0,Vn,Vf,Vi 0,Vn,Vn,Af 0,Af 0,Af 0,Af 0,Vi 0,Vi 0,Vi 0,Vi 0,Vf,Vn,Vn,Vi 0,Vf,Vi 0,Vi 0,Vi 0,Vi 0,Vn,.string ⟨[].toArray⟩,Vi (-1),Vi (-1)]:=by
 refine Ai.of_T [(0,_)] func220 rfl ntmps220 sM rfl fun w0 hs =>Wt 2 [] hs rfl<|O_s (Sb hs rfl fun b1 _ hs=>O_s (Sa hs zeroValue137 rfl fun b2 _ hs=>Wp 6 [0,0,1] hs rfl<|O_s (Sc (Nh (k:=11)) hs rfl fun v1 G' H' _ hR hG5 hs=>?_)))
 obtain ⟨rfl,rfl⟩:=hR
 replace hs:=hs.n rfl
 refine Wp 27 [32,1,0,1,0,1,3,1,2,26,31] hs rfl<|O_n (Sd hs.f1 rfl rfl fun _ hs=>Wp 1 [32] hs rfl<|O_n (Sd hs rfl rfl fun _ hs=>Wp 96 [0,0,0,0,0,0,0,0,0,0,0,0,4,1,2,32,50,0,0,0,0,0,0,0,5] hs rfl<|O_n (Sd hs rfl rfl fun _ hs=>Wp 1 [6] hs rfl<|O_n (Sd hs rfl rfl fun _ hs=>Wp 4 [0,0] hs rfl<|O_n (Sg hs.f1 rfl (rfl) fun _ hs=>Wp 1 [0] hs rfl<|Ah<|Zz results220 (Rb 0 hs rfl rF) ?_)))))
 exact ⟨_,[],hs.done,rfl,rfl⟩
theorem sH {G:Ghost}  :
  Ai prog 220 [.agg #[Vi 12,Vi 0,Vi 0,Vi 0,Vi 0,Vi 0,Vi 0,Vn,Vf,Vi 0,Vn,Vn,Af 0,Af 0,Af 0,Af 0,Vi 0,Vi 0,Vi 0,Vi 0,Vf,Vn,Vn,Vi 0,Vf,Vi 0,Vi 0,Vi 0,Vi 0,Vn,.string ⟨[].toArray⟩,Vi (-1),Vi (-1)]] G [] fun r _ H'=>H'=[]∧r=.agg #[Vi 12,Vi 0,Vi 0,Vi 0,Vi 0,Vi 0,Vi 0,Vn,Vf,Vi 0,Vn,Vn,Af 0,Af 0,Af 0,Af 0,Vi 0,Vi 0,Vi 0,Vi 0,Vf,Vn,Vn,Vi 0,Vf,Vi 0,Vi 0,Vi 0,Vi 0,Vn,.string ⟨[].toArray⟩,Vi (-1),Vi (-1)]:=by
 refine Ai.of_T [(0,_)] func220 rfl ntmps220 sM rfl fun w0 hs =>Wt 2 [] hs rfl<|O_s (Sb hs rfl fun b1 _ hs=>O_s (Sa hs zeroValue137 rfl fun b2 _ hs=>Wp 6 [0,0,1] hs rfl<|O_s (Sc (Nh (k:=12)) hs rfl fun v1 G' H' _ hR hG5 hs=>?_)))
 obtain ⟨rfl,rfl⟩:=hR
 replace hs:=hs.n rfl
 refine Wp 27 [32,1,0,1,0,1,31,1,3,1,2,26,31] hs rfl<|O_n (Sd hs.f1 rfl rfl fun _ hs=>Wp 1 [32] hs rfl<|O_n (Sd hs rfl rfl fun _ hs=>Wp 146 [0,0,0,0,0,0,0,0,0,0,0,0,4,1,2,32,50,0,0,0,0,0,0,0,0,0,0,0,0,4,1,2,56,86,0,0,0] hs rfl<|O_n (Sg hs.f1 rfl (rfl) fun _ hs=>Wp 1 [0] hs rfl<|Ah<|Zz results220 (Rb 0 hs rfl rF) ?_)))
 exact ⟨_,[],hs.done,rfl,rfl⟩
theorem sI {G:Ghost} {x:Int} {nm:List UInt8} :
  Ai prog 220 [.agg #[Vi 13,Vi x,Vi 0,Vi 0,Vi 0,Vi 0,Vi 0,Vn,Vf,Vi 0,Vn,Vn,Af 0,Af 0,Af 0,Af 0,Vi 0,Vi 0,Vi 0,Vi 0,Vf,Vn,Vn,Vi 0,Vf,Vi 0,Vi 0,Vi 0,Vi 0,Vn,.string ⟨nm.toArray⟩,Vi (-1),Vi (-1)]] G [] fun r _ H'=>H'=[]∧r=.agg #[Vi 13,Vi 0,Vi 0,Vi 0,Vi 0,Vi 0,Vi 0,Vn,Vf,Vi 0,Vn,Vn,Af 0,Af 0,Af 0,Af 0,Vi 0,Vi 0,Vi 0,Vi 0,Vf,Vn,Vn,Vi 0,Vf,Vi 0,Vi 0,Vi 0,Vi 0,Vn,.string ⟨[].toArray⟩,Vi (-1),Vi (-1)]:=by
 refine Ai.of_T [(0,_)] func220 rfl ntmps220 sM rfl fun w0 hs =>Wt 2 [] hs rfl<|O_s (Sb hs rfl fun b1 _ hs=>O_s (Sa hs zeroValue137 rfl fun b2 _ hs=>Wp 6 [0,0,1] hs rfl<|O_s (Sc (Nh (k:=13)) hs rfl fun v1 G' H' _ hR hG5 hs=>?_)))
 obtain ⟨rfl,rfl⟩:=hR
 replace hs:=hs.n rfl
 refine Wp 27 [32,1,0,1,0,1,31,1,3,1,2,26,31] hs rfl<|O_n (Sd hs.f1 rfl rfl fun _ hs=>Wp 1 [32] hs rfl<|O_n (Sd hs rfl rfl fun _ hs=>Wp 70 [0,0,0,0,0,0,0,0,0,0,0,0,4,1,2,32,50,0,1] hs rfl<|O_n (Sd hs rfl rfl fun _ hs=>Wp 70 [0,0,0,0,0,0,0,0,0,0,0,4,1,2,56,82,0,0,30] hs rfl<|O_n (Sd hs rfl rfl fun _ hs=>Wp 4 [0,0] hs rfl<|O_n (Sg hs.f1 rfl (rfl) fun _ hs=>Wp 1 [0] hs rfl<|Ah<|Zz results220 (Rb 0 hs rfl rF) ?_)))))
 exact ⟨_,[],hs.done,rfl,rfl⟩
theorem sJ {G:Ghost} {i:Int} :
  Ai prog 220 [.agg #[Vi 14,Vi 0,Vi 0,Vi 0,Vi 0,Vi i,Vi 0,Vn,Vf,Vi 0,Vn,Vn,Af 0,Af 0,Af 0,Af 0,Vi 0,Vi 0,Vi 0,Vi 0,Vf,Vn,Vn,Vi 0,Vf,Vi 0,Vi 0,Vi 0,Vi 0,Vn,.string ⟨[].toArray⟩,Vi (-1),Vi (-1)]] G [] fun r _ H'=>H'=[]∧r=.agg #[Vi 14,Vi 0,Vi 0,Vi 0,Vi 0,Vi 0,Vi 0,Vn,Vf,Vi 0,Vn,Vn,Af 0,Af 0,Af 0,Af 0,Vi 0,Vi 0,Vi 0,Vi 0,Vf,Vn,Vn,Vi 0,Vf,Vi 0,Vi 0,Vi 0,Vi 0,Vn,.string ⟨[].toArray⟩,Vi (-1),Vi (-1)]:=by
 refine Ai.of_T [(0,_)] func220 rfl ntmps220 sM rfl fun w0 hs =>Wt 2 [] hs rfl<|O_s (Sb hs rfl fun b1 _ hs=>O_s (Sa hs zeroValue137 rfl fun b2 _ hs=>Wp 6 [0,0,1] hs rfl<|O_s (Sc (Nh (k:=14)) hs rfl fun v1 G' H' _ hR hG5 hs=>?_)))
 obtain ⟨rfl,rfl⟩:=hR
 replace hs:=hs.n rfl
 refine Wp 27 [32,1,0,1,0,1,31,1,3,1,2,26,31] hs rfl<|O_n (Sd hs.f1 rfl rfl fun _ hs=>Wp 1 [32] hs rfl<|O_n (Sd hs rfl rfl fun _ hs=>Wp 144 [0,0,0,0,0,0,0,0,0,0,0,0,4,1,2,32,50,0,0,0,0,0,0,0,0,0,0,0,0,4,1,2,56,86,0,0,5] hs rfl<|O_n (Sd hs rfl rfl fun _ hs=>Wp 4 [0,0] hs rfl<|O_n (Sg hs.f1 rfl (rfl) fun _ hs=>Wp 1 [0] hs rfl<|Ah<|Zz results220 (Rb 0 hs rfl rF) ?_))))
 exact ⟨_,[],hs.done,rfl,rfl⟩
theorem Gx {G:Ghost} {K:Int} {cs:List Value} (hlen:cs.length=33) (hrest:∀ G':Ghost,Ai prog 220 [.agg cs.toArray] G' [] fun r _ H'=>H'=[]∧r=.agg #[Vi K,Vi 0,Vi 0,Vi 0,Vi 0,Vi 0,Vi 0,Vn,Vf,Vi 0,Vn,Vn,Af 0,Af 0,Af 0,Af 0,Vi 0,Vi 0,Vi 0,Vi 0,Vf,Vn,Vn,Vi 0,Vf,Vi 0,Vi 0,Vi 0,Vi 0,Vn,.string ⟨[].toArray⟩,Vi (-1),Vi (-1)]) :
  Ai prog 186 [.agg cs.toArray] G [] fun r _ H'=>H'=[]∧r=Vt:=by
 refine Ai.of_T [(0,_)] func186 rfl ntmps186 sM rfl fun w0 hs =>Wt 2 [] hs rfl<|O_s (Dw hs rfl (cs:=cs) rfl fun b1 _ hs =>Wp 4 [0] hs rfl<|Zy hs (Yk 0 rfl hlen<|O_s (Sc (hrest _) hs rfl fun v1 G' H' _ hR hG8 hs=>?_)))
 obtain ⟨rfl,rfl⟩:=hR
 replace hs:=hs.n rfl
 refine O_s (Sa hs zeroValue137 rfl fun b3 _ hs=>O_n (Sg hs rfl (rfl) fun _ hs=>Wp 123 [0,9,9,0,9,10,0,9,11,0,2,3,4,1,0,2,0,3,0,4,0,5,0,6,0,3,3,4,5,23,23,0,23,24,0,23,25,0,23,26,0,23,27,0,23,28,0,23,29,0,4,3,4,5,6,7,0,8,0,12,0] hs rfl<|Zg hs rfl (Co underlying127 sizeOf125 zeroValue127 rfl rfl (cs:=[_,_,_,_]) rfl<|Zg hs rfl (oA (a:=[0,0,0,0]) (b:=[0,0,0,0]) underlying127 sizeOf125 isAgg125 underlying125 rfl rfl rfl rfl rfl dC dC (fun _=>?_) (fun h=>absurd rfl h)))))
 refine Wp 4 [16,0] hs rfl<|Zg hs rfl (Ba zeroValue129 rfl xA rfl (cs:=[_,_,_,_,_]) rfl<|Zg hs rfl (sF (a:=⟨0,0,0,0,false⟩) (b:=⟨0,0,0,0,false⟩) rfl kR rfl rfl (fun _=>?_) (fun h=>absurd rfl h)))
 refine Wp 16 [21,0,22,0,30,0] hs rfl<|Zg hs rfl (gP (a:=[]) (b:=[]) rfl rfl (fun _=>?_) (fun h=>absurd rfl h))
 refine Wp 3 [1,2] hs rfl<|Ah<|Zz results186 rfl ?_
 exact ⟨_,[],hs.done,rfl,rfl⟩
theorem xJ {G:Ghost} {b:UInt8} (h1:97≤b.toNat) (h2:b.toNat≤122) :
  Ai prog 191 [.string ⟨[b].toArray⟩] G [] fun r _ H'=>H'=[]∧r=Vt:=by
 refine Ai.of_T [(0,_)] func191 rfl ntmps191 sM rfl fun w0 hs =>Wt 8 [0] hs rfl<|O_s (qY hs underlying9 underlying29 underlying5 rfl (fun k=>Ht k) sM fun G6 v6_ w6 hG6 hb6 hs=>?_)
 obtain ⟨A6,c6,rfl⟩:∃ A c,v6_=.slice A 1 c:=(fun ⟨A,c,h,_⟩=>⟨A,c,h⟩) hb6
 refine Wp 3 [0] hs rfl<|Dp (Ej 2 (L:=[(0,_),(6,_),(7,_),(8,_)]) ⟨rfl,rfl,rfl,rfl,trivial⟩ (Gn<|Wt 11 [0] hs rfl<|Zy hs (eG hb6 0 underlying29 sizeOf5 rfl rfl rfl sM fun p10 hp10=>?_)))
 replace hp10:Ft _ p10=some (.int .u8 (b.toNat:Int)):=hp10
 refine Zy hs (Yg rfl (hp10)<|Wp 5 [0] hs rfl<|Zy hs (Di rfl rfl rfl oM<|Wp 2 [] hs rfl<|Zg hs rfl (Di rfl rfl rfl oM<|Wp 5 [0] hs rfl<|Zy hs (Eb (c:=(1)) rfl rfl dC dC<|Wp 1 [] hs rfl<|Cl ⟨[(0,_),(6,_),(7,_),(8,_)],⟨rfl,rfl,rfl,rfl,trivial⟩,Gn ?_⟩))))
 refine Wt 7 [0] hs rfl<|Wu 3 [] hs rfl<|Zy hs (Y_lenS underlying9 rfl<|O_s (Sc (Ev (x:=1) (lo:=1) (hi:=8)) hs rfl fun v1 G' H' _ hR hG21 hs=>?_))
 obtain ⟨rfl,rfl⟩:=hR
 replace hs:=hs.n rfl
 refine Wp 2 [0] hs rfl<|Ah<|Zz results191 rfl ?_
 exact ⟨_,[],hs.done,rfl,rfl⟩
theorem xK {G:Ghost} {ng:Bool} {Ar:Option Addr} {cr:Nat} :
  Ai prog 190 [.agg #[Vi 1,.bool ng,Vi 0,Vi 0,Vi 0,Vi 0,.slice Ar 2 cr]] G [] fun r _ H'=>H'=[]∧r=Vt:=by
 refine Ai.of_T [(0,_)] func190 rfl ntmps190 sM rfl fun w0 hs =>Wt 2 [] hs rfl<|O_s (Sb hs rfl fun b1 _ hs=>Wp 3 [0] hs rfl<|Bc [0,1,2,3,4,5,6,7,8,9,10,11,12,13,14,15] hs kR ?_)
 replace hs:=hs.drew
 refine Xr [0,1,2,3,4,5,6,7,8,9,10,11,12,13,14,15] [2,0,3,0,4,0,5,0] hs rfl<|Xe (Zk [1,3,4,5,6] rfl<|Wu 25 [6,0,0,0,0,0,0,2,0] hs rfl<|O_s (Sc (Gf (x:=0)) hs rfl fun v1 G' H' _ hR hG30 hs=>?_))
 obtain ⟨rfl,rfl⟩:=hR
 replace hs:=hs.n rfl
 refine Wp 11 [1,2] hs rfl<|Ah<|Zz results190 rfl ?_
 exact ⟨_,[],hs.done,rfl,rfl⟩
theorem xL {G:Ghost} {ng:Bool} {kk:Int} (h0:kk≠0) (hk:Qb kk 0 4096=true) :
  Ai prog 190 [.agg #[Vi 3,.bool ng,Vi 0,Vi 0,Vi 0,Vi kk,Vn]] G [] fun r _ H'=>H'=[]∧r=Vt:=by
 refine Ai.of_T [(0,_)] func190 rfl ntmps190 sM rfl fun w0 hs =>Wt 2 [] hs rfl<|O_s (Sb hs rfl fun b1 _ hs=>Wp 3 [0] hs rfl<|Bc [0,1,2,3,4,5,6,7,8,9,10,11,12,13,14,15] hs kR ?_)
 replace hs:=hs.drew
 refine Xr [0,1,2,3,4,5,6,7,8,9,10] [2,0,3,0,4,0,5,0] hs rfl<|Xt 11 hs rfl (Di rfl rfl rfl oM<|Xr [12,13,14,15] [] hs rfl<|Xe (Zk [1,3,4,5,6] rfl<|Wu 37 [6,0,0,0,0,0,0,0,0,2,0] hs rfl<|O_s (Sc (Gf (x:=0)) hs rfl fun v1 G' H' _ hR hG63 hs=>?_)))
 obtain ⟨rfl,rfl⟩:=hR
 replace hs:=hs.n rfl
 refine Wp 12 [5,0] hs rfl<|Ch 73 rfl rfl (Sc (Ev) hs rfl fun v2 G' H' _ hR hG76 hs=>?_)
 obtain ⟨rfl,rfl⟩:=hR
 replace hs:=hs.n rfl
 rw [hk]
 refine Wp 3 [1,2] hs rfl<|Ah<|Zz results190 rfl ?_
 exact ⟨_,[],hs.done,rfl,rfl⟩
theorem xM {G:Ghost} {x y:Int} (hx:Ha x=true) (ht:Js [y]=true) :
  Ai prog 163 [.agg #[Vi 1,Vi x,Vi y,Vi 0,Vi 0,Vi 0,Vi 0,Vn,Vf,Vi 0,Vn,Vn,Af 0,Af 0,Af 0,Af 0,Vi 0,Vi 0,Vi 0,Vi 0,Vf,Vn,Vn,Vi 0,Vf,Vi 0,Vi 0,Vi 0,Vi 0,Vn,.string ⟨[].toArray⟩,Vi (-1),Vi (-1)]] G [] fun r _ H'=>H'=[]∧r=Vt:=by
 refine Ai.of_T [(0,_)] func163 rfl ntmps163 sM rfl fun w0 hs =>Wt 2 [] hs rfl<|O_s (Sb hs rfl fun b1 _ hs=>Wp 6 [0,0] hs rfl<|O_s (Sc (Gx (K:=1) rfl (fun _=>xC)) hs rfl fun v1 G' H' _ hR hG4 hs=>?_))
 obtain ⟨rfl,rfl⟩:=hR
 replace hs:=hs.n rfl
 refine Wp 4 [1,0] hs rfl<|Ch 6 rfl rfl (Sc (Gf) hs rfl fun v2 G' H' _ hR hG9 hs=>?_)
 obtain ⟨rfl,rfl⟩:=hR
 replace hs:=hs.n rfl
 rw [hx]
 refine Wp 5 [4,0] hs rfl<|Ch 12 rfl rfl (Sc (Ev (x:=0) (lo:=0) (hi:=3)) hs rfl fun v3 G' H' _ hR hG15 hs=>?_)
 obtain ⟨rfl,rfl⟩:=hR
 replace hs:=hs.n rfl
 refine Wp 30 [32,0,2,1,22,0,0,0,0,2,0] hs rfl<|O_s (Se hs zeroValue3 rfl fun v4 _ hs _=>?_)
 obtain ⟨_,hG31,hl31,hs⟩:=hs.fixRow noM
 refine O_s (Sc (Pe (l:=[y]) hl31 sM) hs rfl fun v5 G' H' _ hR hG32 hs=>?_)
 obtain ⟨rfl,rfl⟩:=hR
 replace hs:=hs.n rfl
 rw [ht]
 refine Wp 2 [0] hs rfl<|Ah<|Zz results163 rfl ?_
 exact ⟨_,[],hs.done,rfl,rfl⟩
theorem xO {G:Ghost} {x y z els:Int} {Ab:Option Addr} {cb:Nat} {b:List UInt8} {la:Bool} (hx:Ha x=true) (he : -1≤els) (ht:Js [y,z]=true) (hb:Qb b.length 1 8=true) :
  Ai prog 163 [.agg #[Vi 3,Vi x,Vi y,Vi z,Vi 0,Vi 0,Vi 0,.slice Ab b.length cb,.bool la,Vi 0,Vn,Vn,Af 0,Af 0,Af 0,Af 0,Vi 0,Vi 0,Vi 0,Vi 0,Vf,Vn,Vn,Vi 0,Vf,Vi 0,Vi 0,Vi 0,Vi 0,Vn,.string ⟨[].toArray⟩,Vi (-1),Vi els]] G [] fun r _ H'=>H'=[]∧r=Vt:=by
 refine Ai.of_T [(0,_)] func163 rfl ntmps163 sM rfl fun w0 hs =>Wt 2 [] hs rfl<|O_s (Sb hs rfl fun b1 _ hs=>Wp 6 [0,0] hs rfl<|O_s (Sc (Gx (K:=3) rfl (fun _=>xD)) hs rfl fun v1 G' H' _ hR hG4 hs=>?_))
 obtain ⟨rfl,rfl⟩:=hR
 replace hs:=hs.n rfl
 refine Wp 4 [1,0] hs rfl<|Ch 6 rfl rfl (Sc (Gf) hs rfl fun v2 G' H' _ hR hG9 hs=>?_)
 obtain ⟨rfl,rfl⟩:=hR
 replace hs:=hs.n rfl
 rw [hx]
 refine Wp 5 [4,0] hs rfl<|Ch 12 rfl rfl (Sc (Ev (x:=0) (lo:=0) (hi:=3)) hs rfl fun v3 G' H' _ hR hG15 hs=>?_)
 obtain ⟨rfl,rfl⟩:=hR
 replace hs:=hs.n rfl
 refine Wp 5 [32,0] hs rfl<|Zg hs rfl (Di rfl rfl rfl oM<|Wp 47 [2,1,22,0,0,0,0,0,0,0,0,2,0,3,0] hs rfl<|O_s (Se hs zeroValue3 rfl fun v4 _ hs _=>?_))
 obtain ⟨_,hG51,hl51,hs⟩:=hs.fixRow noM
 refine O_s (Sc (Pe (l:=[y,z]) hl51 sM) hs rfl fun v5 G' H' _ hR hG52 hs=>?_)
 obtain ⟨rfl,rfl⟩:=hR
 replace hs:=hs.n rfl
 rw [ht]
 refine Wp 4 [7,0] hs rfl<|Ch 53 rfl rfl (Sc (Ev) hs rfl fun v6 G' H' _ hR hG57 hs=>?_)
 obtain ⟨rfl,rfl⟩:=hR
 replace hs:=hs.n rfl
 rw [hb]
 refine Wp 3 [1,2] hs rfl<|Ah<|Zz results163 rfl ?_
 exact ⟨_,[],hs.done,rfl,rfl⟩
theorem xP {G:Ghost} {x y i j:Int} (hx:Ha x=true) (ht:Js [y]=true) (hi:Qb i 0 4096=true) (hj:Qb j (-1) 4096=true) :
  Ai prog 163 [.agg #[Vi 4,Vi x,Vi y,Vi 0,Vi 0,Vi i,Vi j,Vn,Vf,Vi 0,Vn,Vn,Af 0,Af 0,Af 0,Af 0,Vi 0,Vi 0,Vi 0,Vi 0,Vf,Vn,Vn,Vi 0,Vf,Vi 0,Vi 0,Vi 0,Vi 0,Vn,.string ⟨[].toArray⟩,Vi (-1),Vi (-1)]] G [] fun r _ H'=>H'=[]∧r=Vt:=by
 refine Ai.of_T [(0,_)] func163 rfl ntmps163 sM rfl fun w0 hs =>Wt 2 [] hs rfl<|O_s (Sb hs rfl fun b1 _ hs=>Wp 6 [0,0] hs rfl<|O_s (Sc (Gx (K:=4) rfl (fun _=>xE)) hs rfl fun v1 G' H' _ hR hG4 hs=>?_))
 obtain ⟨rfl,rfl⟩:=hR
 replace hs:=hs.n rfl
 refine Wp 4 [1,0] hs rfl<|Ch 6 rfl rfl (Sc (Gf) hs rfl fun v2 G' H' _ hR hG9 hs=>?_)
 obtain ⟨rfl,rfl⟩:=hR
 replace hs:=hs.n rfl
 rw [hx]
 refine Wp 5 [4,0] hs rfl<|Ch 12 rfl rfl (Sc (Ev (x:=0) (lo:=0) (hi:=3)) hs rfl fun v3 G' H' _ hR hG15 hs=>?_)
 obtain ⟨rfl,rfl⟩:=hR
 replace hs:=hs.n rfl
 refine Wp 57 [32,0,2,1,22,0,0,0,0,0,0,0,0,0,2,0] hs rfl<|O_s (Se hs zeroValue3 rfl fun v4 _ hs _=>?_)
 obtain ⟨_,hG63,hl63,hs⟩:=hs.fixRow noM
 refine O_s (Sc (Pe (l:=[y]) hl63 sM) hs rfl fun v5 G' H' _ hR hG64 hs=>?_)
 obtain ⟨rfl,rfl⟩:=hR
 replace hs:=hs.n rfl
 rw [ht]
 refine Wp 3 [5,0] hs rfl<|Ch 65 rfl rfl (Sc (Ev) hs rfl fun v6 G' H' _ hR hG68 hs=>?_)
 obtain ⟨rfl,rfl⟩:=hR
 replace hs:=hs.n rfl
 rw [hi]
 refine Wp 4 [6,0] hs rfl<|Ch 70 rfl rfl (Sc (Ev) hs rfl fun v7 G' H' _ hR hG73 hs=>?_)
 obtain ⟨rfl,rfl⟩:=hR
 replace hs:=hs.n rfl
 rw [hj]
 refine Wp 3 [1,2] hs rfl<|Ah<|Zz results163 rfl ?_
 exact ⟨_,[],hs.done,rfl,rfl⟩
theorem xQ {G:Ghost} {x y els:Int} {A1 A2:Option Addr} {k1 k2:Nat} {o:kO} (hx:Ha x=true) (he : -1≤els) (ht:Js [y]=true) :
  Ai prog 163 [.agg #[Vi 6,Vi x,Vi y,Vi 0,Vi 0,Vi 0,Vi 0,Vn,Vf,Vi o.kind,.slice A1 o.old.length k1,.slice A2 o.new.length k2,Af 0,Af 0,Af 0,Af 0,Vi 0,Vi 0,Vi 0,Vi 0,Vf,Vn,Vn,Vi 0,Vf,Vi 0,Vi 0,Vi 0,Vi 0,Vn,.string ⟨[].toArray⟩,Vi (-1),Vi els]] G [] fun r _ H'=>H'=[]∧r=Vt:=by
 refine Ai.of_T [(0,_)] func163 rfl ntmps163 sM rfl fun w0 hs =>Wt 2 [] hs rfl<|O_s (Sb hs rfl fun b1 _ hs=>Wp 6 [0,0] hs rfl<|O_s (Sc (Gx (K:=6) rfl (fun _=>xF)) hs rfl fun v1 G' H' _ hR hG4 hs=>?_))
 obtain ⟨rfl,rfl⟩:=hR
 replace hs:=hs.n rfl
 refine Wp 4 [1,0] hs rfl<|Ch 6 rfl rfl (Sc (Gf) hs rfl fun v2 G' H' _ hR hG9 hs=>?_)
 obtain ⟨rfl,rfl⟩:=hR
 replace hs:=hs.n rfl
 rw [hx]
 refine Wp 5 [4,0] hs rfl<|Ch 12 rfl rfl (Sc (Ev (x:=0) (lo:=0) (hi:=3)) hs rfl fun v3 G' H' _ hR hG15 hs=>?_)
 obtain ⟨rfl,rfl⟩:=hR
 replace hs:=hs.n rfl
 refine Wp 5 [32,0] hs rfl<|Zg hs rfl (Di rfl rfl rfl oM<|Wp 30 [2,1,22,0,0,0,0,0,2,0] hs rfl<|O_s (Se hs zeroValue3 rfl fun v4 _ hs _=>?_))
 obtain ⟨_,hG31,hl31,hs⟩:=hs.fixRow noM
 refine O_s (Sc (Pe (l:=[y]) hl31 sM) hs rfl fun v5 G' H' _ hR hG32 hs=>?_)
 obtain ⟨rfl,rfl⟩:=hR
 replace hs:=hs.n rfl
 rw [ht]
 refine Wp 2 [0] hs rfl<|Ah<|Zz results163 rfl ?_
 exact ⟨_,[],hs.done,rfl,rfl⟩
theorem xR {G:Ghost} {x y:Int} {c0 c1 c2 c3:Nat} (hx:Ha x=true) (ht:Js [y]=true) :
  Ai prog 163 [.agg #[Vi 7,Vi x,Vi y,Vi 0,Vi 0,Vi 0,Vi 0,Vn,Vf,Vi 0,Vn,Vn,Af c0,Af c1,Af c2,Af c3,Vi 0,Vi 0,Vi 0,Vi 0,Vf,Vn,Vn,Vi 0,Vf,Vi 0,Vi 0,Vi 0,Vi 0,Vn,.string ⟨[].toArray⟩,Vi (-1),Vi (-1)]] G [] fun r _ H'=>H'=[]∧r=Vt:=by
 refine Ai.of_T [(0,_)] func163 rfl ntmps163 sM rfl fun w0 hs =>Wt 2 [] hs rfl<|O_s (Sb hs rfl fun b1 _ hs=>Wp 6 [0,0] hs rfl<|O_s (Sc (Gx (K:=7) rfl (fun _=>xG)) hs rfl fun v1 G' H' _ hR hG4 hs=>?_))
 obtain ⟨rfl,rfl⟩:=hR
 replace hs:=hs.n rfl
 refine Wp 4 [1,0] hs rfl<|Ch 6 rfl rfl (Sc (Gf) hs rfl fun v2 G' H' _ hR hG9 hs=>?_)
 obtain ⟨rfl,rfl⟩:=hR
 replace hs:=hs.n rfl
 rw [hx]
 refine Wp 5 [4,0] hs rfl<|Ch 12 rfl rfl (Sc (Ev (x:=0) (lo:=0) (hi:=3)) hs rfl fun v3 G' H' _ hR hG15 hs=>?_)
 obtain ⟨rfl,rfl⟩:=hR
 replace hs:=hs.n rfl
 refine Wp 39 [32,0,2,1,22,0,0,0,0,0,0,2,0] hs rfl<|O_s (Se hs zeroValue3 rfl fun v4 _ hs _=>?_)
 obtain ⟨_,hG31,hl31,hs⟩:=hs.fixRow noM
 refine O_s (Sc (Pe (l:=[y]) hl31 sM) hs rfl fun v5 G' H' _ hR hG32 hs=>?_)
 obtain ⟨rfl,rfl⟩:=hR
 replace hs:=hs.n rfl
 rw [ht]
 refine Wp 2 [0] hs rfl<|Ah<|Zz results163 rfl ?_
 exact ⟨_,[],hs.done,rfl,rfl⟩
theorem xS {G:Ghost} {x n els:Int} {q:Of} (hx:Ha x=true) (he : -1≤els) (hn:Qb n 0 3=true) :
  Ai prog 163 [.agg #[Vi 8,Vi x,Vi 0,Vi 0,Vi n,Vi 0,Vi 0,Vn,Vf,Vi 0,Vn,Vn,Af 0,Af 0,Af 0,Af 0,Vi q.base,Vi q.digits,Vi q.top,Vi q.over,.bool q.zeros,Vn,Vn,Vi 0,Vf,Vi 0,Vi 0,Vi 0,Vi 0,Vn,.string ⟨[].toArray⟩,Vi (-1),Vi els]] G [] fun r _ H'=>H'=[]∧r=Vt:=by
 refine Ai.of_T [(0,_)] func163 rfl ntmps163 sM rfl fun w0 hs =>Wt 2 [] hs rfl<|O_s (Sb hs rfl fun b1 _ hs=>Wp 6 [0,0] hs rfl<|O_s (Sc (Gx (K:=8) rfl (fun _=>xH)) hs rfl fun v1 G' H' _ hR hG4 hs=>?_))
 obtain ⟨rfl,rfl⟩:=hR
 replace hs:=hs.n rfl
 refine Wp 4 [1,0] hs rfl<|Ch 6 rfl rfl (Sc (Gf) hs rfl fun v2 G' H' _ hR hG9 hs=>?_)
 obtain ⟨rfl,rfl⟩:=hR
 replace hs:=hs.n rfl
 rw [hx]
 refine Wp 5 [4,0] hs rfl<|Ch 12 rfl rfl (Sc (Ev) hs rfl fun v3 G' H' _ hR hG15 hs=>?_)
 obtain ⟨rfl,rfl⟩:=hR
 replace hs:=hs.n rfl
 rw [hn]
 refine Wp 5 [32,0] hs rfl<|Zg hs rfl (Di rfl rfl rfl oM<|Wp 96 [2,1,22,0,0,0,0,0,0,0,0,0,0,0,0,0,3,1,24,113,0,0,0] hs rfl<|Ah<|Zz results163 rfl ?_)
 exact ⟨_,[],hs.done,rfl,rfl⟩
theorem xT {G:Ghost} {x els:Int} {Ap Ay:Option Addr} {cp cy:Nat} {ys:List Int} (hx:Ha x=true) (he : -1≤els) (hy:Bt G (.slice Ay ys.length cy) ys) (hyl:ys.length≤100) (ht:Js ys=true) :
  Ai prog 163 [.agg #[Vi 9,Vi x,Vi 0,Vi 0,Vi 0,Vi 0,Vi 0,Vn,Vf,Vi 0,Vn,Vn,Af 0,Af 0,Af 0,Af 0,Vi 0,Vi 0,Vi 0,Vi 0,Vf,.slice Ap 2 cp,.slice Ay ys.length cy,Vi 0,Vf,Vi 0,Vi 0,Vi 0,Vi 0,Vn,.string ⟨[].toArray⟩,Vi (-1),Vi els]] G [] fun r _ H'=>H'=[]∧r=Vt:=by
 refine Ai.of_T [(0,_)] func163 rfl ntmps163 sM rfl fun w0 hs=>?_
 have hy0:=hy
 refine Wt 2 [] hs rfl<|O_s (Sb hs rfl fun b1 _ hs=>Wp 6 [0,0] hs rfl<|O_s (Sc (Gx (K:=9) rfl (fun _=>xI)) hs rfl fun v1 G' H' _ hR hG4 hs=>?_))
 obtain ⟨rfl,rfl⟩:=hR
 replace hs:=hs.n rfl
 replace hy:=hy.mono hG4
 refine Wp 4 [1,0] hs rfl<|Ch 6 rfl rfl (Sc (Gf) hs rfl fun v2 G' H' _ hR hG9 hs=>?_)
 obtain ⟨rfl,rfl⟩:=hR
 replace hs:=hs.n rfl
 replace hy:=hy.mono hG9
 rw [hx]
 refine Wp 5 [4,0] hs rfl<|Ch 12 rfl rfl (Sc (Ev (x:=0) (lo:=0) (hi:=3)) hs rfl fun v3 G' H' _ hR hG15 hs=>?_)
 obtain ⟨rfl,rfl⟩:=hR
 replace hs:=hs.n rfl
 replace hy:=hy.mono hG15
 refine Wp 5 [32,0] hs rfl<|Zg hs rfl (Di rfl rfl rfl oM<|Wp 63 [2,1,22,0,0,0,0,0,0,0,0,0,0,0,22,0] hs rfl<|O_s (Sc (Pe hy oM) hs rfl fun v4 G' H' _ hR hG87 hs=>?_))
 obtain ⟨rfl,rfl⟩:=hR
 replace hs:=hs.n rfl
 rw [ht]
 refine Wp 2 [0] hs rfl<|Ah<|Zz results163 rfl ?_
 exact ⟨_,[],hs.done,rfl,rfl⟩
theorem sK {G:Ghost} {i j thn:Int} (ht:0≤thn) (hi:Qb i 1 8=true) (hj:Qb j 0 999=true) :
  Ai prog 163 [.agg #[Vi 11,Vi 0,Vi 0,Vi 0,Vi 0,Vi i,Vi j,Vn,Vf,Vi 0,Vn,Vn,Af 0,Af 0,Af 0,Af 0,Vi 0,Vi 0,Vi 0,Vi 0,Vf,Vn,Vn,Vi 0,Vf,Vi 0,Vi 0,Vi 0,Vi 0,Vn,.string ⟨[].toArray⟩,Vi thn,Vi (-1)]] G [] fun r _ H'=>H'=[]∧r=Vt:=by
 refine Ai.of_T [(0,_)] func163 rfl ntmps163 sM rfl fun w0 hs =>Wt 2 [] hs rfl<|O_s (Sb hs rfl fun b1 _ hs=>Wp 6 [0,0] hs rfl<|O_s (Sc (Gx (K:=11) rfl (fun _=>sG)) hs rfl fun v1 G' H' _ hR hG4 hs=>?_))
 obtain ⟨rfl,rfl⟩:=hR
 replace hs:=hs.n rfl
 refine Wp 4 [1,0] hs rfl<|Ch 6 rfl rfl (Sc (Gf (x:=0)) hs rfl fun v2 G' H' _ hR hG9 hs=>?_)
 obtain ⟨rfl,rfl⟩:=hR
 replace hs:=hs.n rfl
 refine Wp 5 [4,0] hs rfl<|Ch 12 rfl rfl (Sc (Ev (x:=0) (lo:=0) (hi:=3)) hs rfl fun v3 G' H' _ hR hG15 hs=>?_)
 obtain ⟨rfl,rfl⟩:=hR
 replace hs:=hs.n rfl
 refine Wp 81 [32,0,2,1,22,0,0,0,0,0,0,0,0,0,0,0,0,0,31,0] hs rfl<|Zy hs (Im rfl rfl rfl oM<|Wp 3 [5,0] hs rfl<|Ch 103 rfl rfl (Sc (Ev) hs rfl fun v4 G' H' _ hR hG106 hs=>?_))
 obtain ⟨rfl,rfl⟩:=hR
 replace hs:=hs.n rfl
 rw [hi]
 refine Wp 4 [6,0] hs rfl<|Ch 108 rfl rfl (Sc (Ev) hs rfl fun v5 G' H' _ hR hG111 hs=>?_)
 obtain ⟨rfl,rfl⟩:=hR
 replace hs:=hs.n rfl
 rw [hj]
 refine Wp 3 [1,2] hs rfl<|Ah<|Zz results163 rfl ?_
 exact ⟨_,[],hs.done,rfl,rfl⟩
theorem sL {G:Ghost}   :
  Ai prog 163 [.agg #[Vi 12,Vi 0,Vi 0,Vi 0,Vi 0,Vi 0,Vi 0,Vn,Vf,Vi 0,Vn,Vn,Af 0,Af 0,Af 0,Af 0,Vi 0,Vi 0,Vi 0,Vi 0,Vf,Vn,Vn,Vi 0,Vf,Vi 0,Vi 0,Vi 0,Vi 0,Vn,.string ⟨[].toArray⟩,Vi (-1),Vi (-1)]] G [] fun r _ H'=>H'=[]∧r=Vt:=by
 refine Ai.of_T [(0,_)] func163 rfl ntmps163 sM rfl fun w0 hs =>Wt 2 [] hs rfl<|O_s (Sb hs rfl fun b1 _ hs=>Wp 6 [0,0] hs rfl<|O_s (Sc (Gx (K:=12) rfl (fun _=>sH)) hs rfl fun v1 G' H' _ hR hG4 hs=>?_))
 obtain ⟨rfl,rfl⟩:=hR
 replace hs:=hs.n rfl
 refine Wp 4 [1,0] hs rfl<|Ch 6 rfl rfl (Sc (Gf (x:=0)) hs rfl fun v2 G' H' _ hR hG9 hs=>?_)
 obtain ⟨rfl,rfl⟩:=hR
 replace hs:=hs.n rfl
 refine Wp 5 [4,0] hs rfl<|Ch 12 rfl rfl (Sc (Ev (x:=0) (lo:=0) (hi:=3)) hs rfl fun v3 G' H' _ hR hG15 hs=>?_)
 obtain ⟨rfl,rfl⟩:=hR
 replace hs:=hs.n rfl
 refine Wp 108 [32,0,2,1,22,0,0,0,0,0,0,0,0,0,0,0,0,0,3,1,24,113,0,0,0,0] hs rfl<|Ah<|Zz results163 rfl ?_
 exact ⟨_,[],hs.done,rfl,rfl⟩
theorem sN {G:Ghost} {x:Int} {b:UInt8} (hx:Ha x=true) (h1:97≤b.toNat) (h2:b.toNat≤122) :
  Ai prog 163 [.agg #[Vi 13,Vi x,Vi 0,Vi 0,Vi 0,Vi 0,Vi 0,Vn,Vf,Vi 0,Vn,Vn,Af 0,Af 0,Af 0,Af 0,Vi 0,Vi 0,Vi 0,Vi 0,Vf,Vn,Vn,Vi 0,Vf,Vi 0,Vi 0,Vi 0,Vi 0,Vn,.string ⟨[b].toArray⟩,Vi (-1),Vi (-1)]] G [] fun r _ H'=>H'=[]∧r=Vt:=by
 refine Ai.of_T [(0,_)] func163 rfl ntmps163 sM rfl fun w0 hs =>Wt 2 [] hs rfl<|O_s (Sb hs rfl fun b1 _ hs=>Wp 6 [0,0] hs rfl<|O_s (Sc (Gx (K:=13) rfl (fun _=>sI (nm:=[b]))) hs rfl fun v1 G' H' _ hR hG4 hs=>?_))
 obtain ⟨rfl,rfl⟩:=hR
 replace hs:=hs.n rfl
 refine Wp 4 [1,0] hs rfl<|Ch 6 rfl rfl (Sc (Gf) hs rfl fun v2 G' H' _ hR hG9 hs=>?_)
 obtain ⟨rfl,rfl⟩:=hR
 replace hs:=hs.n rfl
 rw [hx]
 refine Wp 5 [4,0] hs rfl<|Ch 12 rfl rfl (Sc (Ev (x:=0) (lo:=0) (hi:=3)) hs rfl fun v3 G' H' _ hR hG15 hs=>?_)
 obtain ⟨rfl,rfl⟩:=hR
 replace hs:=hs.n rfl
 refine Wp 87 [32,0,2,1,22,0,0,0,0,0,0,0,0,0,0,0,0,0,3,1,24,113,30,0] hs rfl<|O_s (Sc (xJ h1 h2) hs rfl fun v4 G' H' _ hR hG117 hs=>?_)
 obtain ⟨rfl,rfl⟩:=hR
 replace hs:=hs.n rfl
 refine Wp 2 [0] hs rfl<|Ah<|Zz results163 rfl ?_
 exact ⟨_,[],hs.done,rfl,rfl⟩
theorem sO {G:Ghost} {i:Int} (hi:Qb i 0 999=true) :
  Ai prog 163 [.agg #[Vi 14,Vi 0,Vi 0,Vi 0,Vi 0,Vi i,Vi 0,Vn,Vf,Vi 0,Vn,Vn,Af 0,Af 0,Af 0,Af 0,Vi 0,Vi 0,Vi 0,Vi 0,Vf,Vn,Vn,Vi 0,Vf,Vi 0,Vi 0,Vi 0,Vi 0,Vn,.string ⟨[].toArray⟩,Vi (-1),Vi (-1)]] G [] fun r _ H'=>H'=[]∧r=Vt:=by
 refine Ai.of_T [(0,_)] func163 rfl ntmps163 sM rfl fun w0 hs =>Wt 2 [] hs rfl<|O_s (Sb hs rfl fun b1 _ hs=>Wp 6 [0,0] hs rfl<|O_s (Sc (Gx (K:=14) rfl (fun _=>sJ)) hs rfl fun v1 G' H' _ hR hG4 hs=>?_))
 obtain ⟨rfl,rfl⟩:=hR
 replace hs:=hs.n rfl
 refine Wp 4 [1,0] hs rfl<|Ch 6 rfl rfl (Sc (Gf (x:=0)) hs rfl fun v2 G' H' _ hR hG9 hs=>?_)
 obtain ⟨rfl,rfl⟩:=hR
 replace hs:=hs.n rfl
 refine Wp 5 [4,0] hs rfl<|Ch 12 rfl rfl (Sc (Ev (x:=0) (lo:=0) (hi:=3)) hs rfl fun v3 G' H' _ hR hG15 hs=>?_)
 obtain ⟨rfl,rfl⟩:=hR
 replace hs:=hs.n rfl
 refine Wp 93 [32,0,2,1,22,0,0,0,0,0,0,0,0,0,0,0,0,0,3,1,24,113,0,5,0] hs rfl<|O_s (Sc (Ev) hs rfl fun v4 G' H' _ hR hG122 hs=>?_)
 obtain ⟨rfl,rfl⟩:=hR
 replace hs:=hs.n rfl
 rw [hi]
 refine Wp 2 [0] hs rfl<|Ah<|Zz results163 rfl ?_
 exact ⟨_,[],hs.done,rfl,rfl⟩
theorem mI {G:Ghost} {thn els:Int} {ng:Bool} {Ar:Option Addr} {cr:Nat} {c:List Nat} (he : -1≤els) (ht:0≤thn) :
  Ai prog 163 [.agg #[Vi 10,Vi 0,Vi 0,Vi 0,Vi 0,Vi 0,Vi 0,Vn,Vf,Vi 0,Vn,Vn,Af 0,Af 0,Af 0,Af 0,Vi 0,Vi 0,Vi 0,Vi 0,Vf,Vn,Vn,Vi 1,.bool ng,Vi 0,Vi 0,Vi 0,Vi 0,.slice Ar 2 cr,.string ⟨[].toArray⟩,Vi thn,Vi els]] G [] fun r _ H'=>H'=[]∧r=Vt:=by
 refine Ai.of_T [(0,_)] func163 rfl ntmps163 sM rfl fun w0 hs =>Wt 2 [] hs rfl<|O_s (Sb hs rfl fun b1 _ hs=>Wp 6 [0,0] hs rfl<|O_s (Sc (Gx (K:=10) rfl (fun _=>dS (k:=⟨1,ng,0,0,0,0,Dy c⟩))) hs rfl fun v1 G' H' _ hR hG4 hs=>?_))
 obtain ⟨rfl,rfl⟩:=hR
 replace hs:=hs.n rfl
 refine Wp 4 [1,0] hs rfl<|Ch 6 rfl rfl (Sc (Gf (x:=0)) hs rfl fun v2 G' H' _ hR hG9 hs=>?_)
 obtain ⟨rfl,rfl⟩:=hR
 replace hs:=hs.n rfl
 refine Wp 5 [4,0] hs rfl<|Ch 12 rfl rfl (Sc (Ev (x:=0) (lo:=0) (hi:=3)) hs rfl fun v3 G' H' _ hR hG15 hs=>?_)
 obtain ⟨rfl,rfl⟩:=hR
 replace hs:=hs.n rfl
 refine Wp 5 [32,0] hs rfl<|Zg hs rfl (Di rfl rfl rfl oM<|Wp 69 [2,1,22,0,0,0,0,0,0,0,0,0,0,0,0,31,0] hs rfl<|Zy hs (Im rfl rfl rfl oM<|Wp 3 [23,0] hs rfl<|Ch 93 rfl rfl (Sc (xK) hs rfl fun v4 G' H' _ hR hG96 hs=>?_)))
 obtain ⟨rfl,rfl⟩:=hR
 replace hs:=hs.n rfl
 refine Wp 3 [1,2] hs rfl<|Ah<|Zz results163 rfl ?_
 exact ⟨_,[],hs.done,rfl,rfl⟩
theorem mJ {G:Ghost} {thn els kk:Int} {ng:Bool} (he : -1≤els) (ht:0≤thn) (h0:kk≠0) (hk:Qb kk 0 4096=true) :
  Ai prog 163 [.agg #[Vi 10,Vi 0,Vi 0,Vi 0,Vi 0,Vi 0,Vi 0,Vn,Vf,Vi 0,Vn,Vn,Af 0,Af 0,Af 0,Af 0,Vi 0,Vi 0,Vi 0,Vi 0,Vf,Vn,Vn,Vi 3,.bool ng,Vi 0,Vi 0,Vi 0,Vi kk,Vn,.string ⟨[].toArray⟩,Vi thn,Vi els]] G [] fun r _ H'=>H'=[]∧r=Vt:=by
 refine Ai.of_T [(0,_)] func163 rfl ntmps163 sM rfl fun w0 hs =>Wt 2 [] hs rfl<|O_s (Sb hs rfl fun b1 _ hs=>Wp 6 [0,0] hs rfl<|O_s (Sc (Gx (K:=10) rfl (fun _=>dS (k:=⟨3,ng,0,0,0,kk,[]⟩))) hs rfl fun v1 G' H' _ hR hG4 hs=>?_))
 obtain ⟨rfl,rfl⟩:=hR
 replace hs:=hs.n rfl
 refine Wp 4 [1,0] hs rfl<|Ch 6 rfl rfl (Sc (Gf (x:=0)) hs rfl fun v2 G' H' _ hR hG9 hs=>?_)
 obtain ⟨rfl,rfl⟩:=hR
 replace hs:=hs.n rfl
 refine Wp 5 [4,0] hs rfl<|Ch 12 rfl rfl (Sc (Ev (x:=0) (lo:=0) (hi:=3)) hs rfl fun v3 G' H' _ hR hG15 hs=>?_)
 obtain ⟨rfl,rfl⟩:=hR
 replace hs:=hs.n rfl
 refine Wp 5 [32,0] hs rfl<|Zg hs rfl (Di rfl rfl rfl oM<|Wp 69 [2,1,22,0,0,0,0,0,0,0,0,0,0,0,0,31,0] hs rfl<|Zy hs (Im rfl rfl rfl oM<|Wp 3 [23,0] hs rfl<|Ch 93 rfl rfl (Sc (xL h0 hk) hs rfl fun v4 G' H' _ hR hG96 hs=>?_)))
 obtain ⟨rfl,rfl⟩:=hR
 replace hs:=hs.n rfl
 refine Wp 3 [1,2] hs rfl<|Ah<|Zz results163 rfl ?_
 exact ⟨_,[],hs.done,rfl,rfl⟩
theorem chk1_ok {G:Ghost} {x y:Int} (hx:Ha x=true) (ht:Js [y]=true)  :
  Ai prog 145 [.agg #[Vi 1,Vi x,Vi y,Vi 0,Vi 0,Vi 0,Vi 0,Vn,Vf,Vi 0,Vn,Vn,Af 0,Af 0,Af 0,Af 0,Vi 0,Vi 0,Vi 0,Vi 0,Vf,Vn,Vn,Vi 0,Vf,Vi 0,Vi 0,Vi 0,Vi 0,Vn,.string ⟨[].toArray⟩,Vi (-1),Vi (-1)]] G [] fun r _ H'=>H'=[]∧r=Vi 0:=by
 refine Ai.of_T [(0,_)] func145 rfl ntmps145 sM rfl fun w0 hs =>Wt 2 [] hs rfl<|O_s (Sb hs rfl fun b1 _ hs=>Wp 6 [0,0] hs rfl<|O_s (Sc (xM hx ht) hs rfl fun v1 G' H' _ hR hG7 hs=>?_))
 obtain ⟨rfl,rfl⟩:=hR
 replace hs:=hs.n rfl
 refine Wp 40 [0,0,0,0,0,0,0,0,0] hs rfl<|Ah<|Zz results145 rfl ?_
 exact ⟨_,[],hs.done,rfl,rfl⟩
theorem chk3_ok {G:Ghost} {x y z els:Int} {Ab:Option Addr} {cb:Nat} {b:List UInt8} {la:Bool} (hx:Ha x=true) (he : -1≤els) (ht:Js [y,z]=true) (hb:Qb b.length 1 8=true)  :
  Ai prog 145 [.agg #[Vi 3,Vi x,Vi y,Vi z,Vi 0,Vi 0,Vi 0,.slice Ab b.length cb,.bool la,Vi 0,Vn,Vn,Af 0,Af 0,Af 0,Af 0,Vi 0,Vi 0,Vi 0,Vi 0,Vf,Vn,Vn,Vi 0,Vf,Vi 0,Vi 0,Vi 0,Vi 0,Vn,.string ⟨[].toArray⟩,Vi (-1),Vi els]] G [] fun r _ H'=>H'=[]∧r=Vi 0:=by
 refine Ai.of_T [(0,_)] func145 rfl ntmps145 sM rfl fun w0 hs =>Wt 2 [] hs rfl<|O_s (Sb hs rfl fun b1 _ hs=>Wp 6 [0,0] hs rfl<|O_s (Sc (xO hx he ht hb) hs rfl fun v1 G' H' _ hR hG7 hs=>?_))
 obtain ⟨rfl,rfl⟩:=hR
 replace hs:=hs.n rfl
 refine Wp 40 [0,0,0,0,0,0,0,0,0] hs rfl<|Ah<|Zz results145 rfl ?_
 exact ⟨_,[],hs.done,rfl,rfl⟩
theorem chk4_ok {G:Ghost} {x y i j:Int} (hx:Ha x=true) (ht:Js [y]=true) (hi:Qb i 0 4096=true) (hj:Qb j (-1) 4096=true)  :
  Ai prog 145 [.agg #[Vi 4,Vi x,Vi y,Vi 0,Vi 0,Vi i,Vi j,Vn,Vf,Vi 0,Vn,Vn,Af 0,Af 0,Af 0,Af 0,Vi 0,Vi 0,Vi 0,Vi 0,Vf,Vn,Vn,Vi 0,Vf,Vi 0,Vi 0,Vi 0,Vi 0,Vn,.string ⟨[].toArray⟩,Vi (-1),Vi (-1)]] G [] fun r _ H'=>H'=[]∧r=Vi 0:=by
 refine Ai.of_T [(0,_)] func145 rfl ntmps145 sM rfl fun w0 hs =>Wt 2 [] hs rfl<|O_s (Sb hs rfl fun b1 _ hs=>Wp 6 [0,0] hs rfl<|O_s (Sc (xP hx ht hi hj) hs rfl fun v1 G' H' _ hR hG7 hs=>?_))
 obtain ⟨rfl,rfl⟩:=hR
 replace hs:=hs.n rfl
 refine Wp 40 [0,0,0,0,0,0,0,0,0] hs rfl<|Ah<|Zz results145 rfl ?_
 exact ⟨_,[],hs.done,rfl,rfl⟩
theorem chk6_ok {G:Ghost} {x y els:Int} {A1 A2:Option Addr} {k1 k2:Nat} {o:kO} (hx:Ha x=true) (he : -1≤els) (ht:Js [y]=true) (ho1:Cv G (.slice A1 o.old.length k1) o.old) (ho2:Cv G (.slice A2 o.new.length k2) o.new) (ho:Ki o=true) :
  Ai prog 145 [.agg #[Vi 6,Vi x,Vi y,Vi 0,Vi 0,Vi 0,Vi 0,Vn,Vf,Vi o.kind,.slice A1 o.old.length k1,.slice A2 o.new.length k2,Af 0,Af 0,Af 0,Af 0,Vi 0,Vi 0,Vi 0,Vi 0,Vf,Vn,Vn,Vi 0,Vf,Vi 0,Vi 0,Vi 0,Vi 0,Vn,.string ⟨[].toArray⟩,Vi (-1),Vi els]] G [] fun r _ H'=>H'=[]∧r=Vi 0:=by
 refine Ai.of_T [(0,_)] func145 rfl ntmps145 sM rfl fun w0 hs=>?_
 have ho10:=ho1
 have ho20:=ho2
 refine Wt 2 [] hs rfl<|O_s (Sb hs rfl fun b1 _ hs=>Wp 6 [0,0] hs rfl<|O_s (Sc (xQ hx he ht) hs rfl fun v1 G' H' _ hR hG7 hs=>?_))
 obtain ⟨rfl,rfl⟩:=hR
 replace hs:=hs.n rfl
 replace ho1:=ho1.mono hG7
 replace ho2:=ho2.mono hG7
 refine Wp 21 [0,0,0,0,0,9,0] hs rfl<|O_s (Sc (opv_ok (o:=o) ⟨_,_,rfl,ho1,ho2⟩) hs rfl fun v2 G' H' _ hR hG15 hs=>?_)
 obtain ⟨rfl,rfl⟩:=hR
 replace hs:=hs.n rfl
 rw [if_pos ho]
 refine Wp 2 [0] hs rfl<|Ah<|Zz results145 rfl ?_
 exact ⟨_,[],hs.done,rfl,rfl⟩
theorem chk7_ok {G:Ghost} {x y:Int} {c0 c1 c2 c3:Nat} (hx:Ha x=true) (ht:Js [y]=true)  :
  Ai prog 145 [.agg #[Vi 7,Vi x,Vi y,Vi 0,Vi 0,Vi 0,Vi 0,Vn,Vf,Vi 0,Vn,Vn,Af c0,Af c1,Af c2,Af c3,Vi 0,Vi 0,Vi 0,Vi 0,Vf,Vn,Vn,Vi 0,Vf,Vi 0,Vi 0,Vi 0,Vi 0,Vn,.string ⟨[].toArray⟩,Vi (-1),Vi (-1)]] G [] fun r _ H'=>H'=[]∧r=Vi 0:=by
 refine Ai.of_T [(0,_)] func145 rfl ntmps145 sM rfl fun w0 hs =>Wt 2 [] hs rfl<|O_s (Sb hs rfl fun b1 _ hs=>Wp 6 [0,0] hs rfl<|O_s (Sc (xR hx ht) hs rfl fun v1 G' H' _ hR hG7 hs=>?_))
 obtain ⟨rfl,rfl⟩:=hR
 replace hs:=hs.n rfl
 refine Wp 40 [0,0,0,0,0,0,0,0,0] hs rfl<|Ah<|Zz results145 rfl ?_
 exact ⟨_,[],hs.done,rfl,rfl⟩
theorem chk8_ok {G:Ghost} {x n els:Int} {q:Of} (hx:Ha x=true) (he : -1≤els) (hn:Qb n 0 3=true) (hq:dF q=0) :
  Ai prog 145 [.agg #[Vi 8,Vi x,Vi 0,Vi 0,Vi n,Vi 0,Vi 0,Vn,Vf,Vi 0,Vn,Vn,Af 0,Af 0,Af 0,Af 0,Vi q.base,Vi q.digits,Vi q.top,Vi q.over,.bool q.zeros,Vn,Vn,Vi 0,Vf,Vi 0,Vi 0,Vi 0,Vi 0,Vn,.string ⟨[].toArray⟩,Vi (-1),Vi els]] G [] fun r _ H'=>H'=[]∧r=Vi 0:=by
 refine Ai.of_T [(0,_)] func145 rfl ntmps145 sM rfl fun w0 hs =>Wt 2 [] hs rfl<|O_s (Sb hs rfl fun b1 _ hs=>Wp 6 [0,0] hs rfl<|O_s (Sc (xS hx he hn) hs rfl fun v1 G' H' _ hR hG7 hs=>?_))
 obtain ⟨rfl,rfl⟩:=hR
 replace hs:=hs.n rfl
 refine Wp 27 [0,0,0,0,0,0,16,0] hs rfl<|O_s (Sc (nval_ok) hs rfl fun v2 G' H' _ hR hG20 hs=>?_)
 obtain ⟨rfl,rfl⟩:=hR
 replace hs:=hs.n rfl
 rw [hq]
 refine Wp 2 [0] hs rfl<|Ah<|Zz results145 rfl ?_
 exact ⟨_,[],hs.done,rfl,rfl⟩
theorem chk9_ok {G:Ghost} {x els:Int} {Ap Ay:Option Addr} {cp cy:Nat} {ys:List Int} (hx:Ha x=true) (he : -1≤els) (hy:Bt G (.slice Ay ys.length cy) ys) (hyl:ys.length≤100) (ht:Js ys=true) {p0 p1:Kt} (hp:vS G (.slice Ap 2 cp) [p0,p1]) (h0:Ps p0.r) (h1:Ps p1.r) (hT:Tab G) (hl2:ys.length=2) :
  Ai prog 145 [.agg #[Vi 9,Vi x,Vi 0,Vi 0,Vi 0,Vi 0,Vi 0,Vn,Vf,Vi 0,Vn,Vn,Af 0,Af 0,Af 0,Af 0,Vi 0,Vi 0,Vi 0,Vi 0,Vf,.slice Ap 2 cp,.slice Ay ys.length cy,Vi 0,Vf,Vi 0,Vi 0,Vi 0,Vi 0,Vn,.string ⟨[].toArray⟩,Vi (-1),Vi els]] G [] fun r _ H'=>H'=[]∧r=Vi 0:=by
 refine Ai.of_T [(0,_)] func145 rfl ntmps145 sM rfl fun w0 hs=>?_
 have hp0:=hp
 have hT0:=hT
 have hy0:=hy
 refine Wt 2 [] hs rfl<|O_s (Sb hs rfl fun b1 _ hs=>Wp 6 [0,0] hs rfl<|O_s (Sc (xT hx he hy hyl ht) hs rfl fun v1 G' H' _ hR hG7 hs=>?_))
 obtain ⟨rfl,rfl⟩:=hR
 replace hs:=hs.n rfl
 replace hp:=hp.mono hG7
 replace hT:=hT.mono hG7
 refine Wp 34 [0,0,0,0,0,0,0,21,0] hs rfl<|O_s (Sc (pval_ok hp h0 h1 hT) hs rfl fun v2 G' H' _ hR hG25 hs=>?_)
 obtain ⟨rfl,rfl⟩:=hR
 replace hs:=hs.n rfl
 refine Wp 17 [0,3,1,3,27,22,0,21,0] hs rfl<|Zy hs (Di rfl rfl rfl oM<|Wp 7 [0,0] hs rfl<|Ah<|Zz results145 rfl ?_)
 exact ⟨_,[],hs.done,rfl,rfl⟩
theorem xU {G:Ghost} {i j thn:Int} (ht:0≤thn) (hi:Qb i 1 8=true) (hj:Qb j 0 999=true)  :
  Ai prog 145 [.agg #[Vi 11,Vi 0,Vi 0,Vi 0,Vi 0,Vi i,Vi j,Vn,Vf,Vi 0,Vn,Vn,Af 0,Af 0,Af 0,Af 0,Vi 0,Vi 0,Vi 0,Vi 0,Vf,Vn,Vn,Vi 0,Vf,Vi 0,Vi 0,Vi 0,Vi 0,Vn,.string ⟨[].toArray⟩,Vi thn,Vi (-1)]] G [] fun r _ H'=>H'=[]∧r=Vi 0:=by
 refine Ai.of_T [(0,_)] func145 rfl ntmps145 sM rfl fun w0 hs =>Wt 2 [] hs rfl<|O_s (Sb hs rfl fun b1 _ hs=>Wp 6 [0,0] hs rfl<|O_s (Sc (sK ht hi hj) hs rfl fun v1 G' H' _ hR hG7 hs=>?_))
 obtain ⟨rfl,rfl⟩:=hR
 replace hs:=hs.n rfl
 refine Wp 40 [0,0,0,0,0,0,0,0,0] hs rfl<|Ah<|Zz results145 rfl ?_
 exact ⟨_,[],hs.done,rfl,rfl⟩
theorem xV {G:Ghost}    :
  Ai prog 145 [.agg #[Vi 12,Vi 0,Vi 0,Vi 0,Vi 0,Vi 0,Vi 0,Vn,Vf,Vi 0,Vn,Vn,Af 0,Af 0,Af 0,Af 0,Vi 0,Vi 0,Vi 0,Vi 0,Vf,Vn,Vn,Vi 0,Vf,Vi 0,Vi 0,Vi 0,Vi 0,Vn,.string ⟨[].toArray⟩,Vi (-1),Vi (-1)]] G [] fun r _ H'=>H'=[]∧r=Vi 0:=by
 refine Ai.of_T [(0,_)] func145 rfl ntmps145 sM rfl fun w0 hs =>Wt 2 [] hs rfl<|O_s (Sb hs rfl fun b1 _ hs=>Wp 6 [0,0] hs rfl<|O_s (Sc (sL ) hs rfl fun v1 G' H' _ hR hG7 hs=>?_))
 obtain ⟨rfl,rfl⟩:=hR
 replace hs:=hs.n rfl
 refine Wp 40 [0,0,0,0,0,0,0,0,0] hs rfl<|Ah<|Zz results145 rfl ?_
 exact ⟨_,[],hs.done,rfl,rfl⟩
theorem xW {G:Ghost} {x:Int} {b:UInt8} (hx:Ha x=true) (h1:97≤b.toNat) (h2:b.toNat≤122)  :
  Ai prog 145 [.agg #[Vi 13,Vi x,Vi 0,Vi 0,Vi 0,Vi 0,Vi 0,Vn,Vf,Vi 0,Vn,Vn,Af 0,Af 0,Af 0,Af 0,Vi 0,Vi 0,Vi 0,Vi 0,Vf,Vn,Vn,Vi 0,Vf,Vi 0,Vi 0,Vi 0,Vi 0,Vn,.string ⟨[b].toArray⟩,Vi (-1),Vi (-1)]] G [] fun r _ H'=>H'=[]∧r=Vi 0:=by
 refine Ai.of_T [(0,_)] func145 rfl ntmps145 sM rfl fun w0 hs =>Wt 2 [] hs rfl<|O_s (Sb hs rfl fun b1 _ hs=>Wp 6 [0,0] hs rfl<|O_s (Sc (sN hx h1 h2) hs rfl fun v1 G' H' _ hR hG7 hs=>?_))
 obtain ⟨rfl,rfl⟩:=hR
 replace hs:=hs.n rfl
 refine Wp 40 [0,0,0,0,0,0,0,0,0] hs rfl<|Ah<|Zz results145 rfl ?_
 exact ⟨_,[],hs.done,rfl,rfl⟩
theorem xX {G:Ghost} {i:Int} (hi:Qb i 0 999=true)  :
  Ai prog 145 [.agg #[Vi 14,Vi 0,Vi 0,Vi 0,Vi 0,Vi i,Vi 0,Vn,Vf,Vi 0,Vn,Vn,Af 0,Af 0,Af 0,Af 0,Vi 0,Vi 0,Vi 0,Vi 0,Vf,Vn,Vn,Vi 0,Vf,Vi 0,Vi 0,Vi 0,Vi 0,Vn,.string ⟨[].toArray⟩,Vi (-1),Vi (-1)]] G [] fun r _ H'=>H'=[]∧r=Vi 0:=by
 refine Ai.of_T [(0,_)] func145 rfl ntmps145 sM rfl fun w0 hs =>Wt 2 [] hs rfl<|O_s (Sb hs rfl fun b1 _ hs=>Wp 6 [0,0] hs rfl<|O_s (Sc (sO hi) hs rfl fun v1 G' H' _ hR hG7 hs=>?_))
 obtain ⟨rfl,rfl⟩:=hR
 replace hs:=hs.n rfl
 refine Wp 40 [0,0,0,0,0,0,0,0,0] hs rfl<|Ah<|Zz results145 rfl ?_
 exact ⟨_,[],hs.done,rfl,rfl⟩
theorem sP {G:Ghost} {thn els:Int} {ng:Bool} {Ar:Option Addr} {cr:Nat} {c:List Nat} (he : -1≤els) (ht:0≤thn) (hr:Rx G (.slice Ar 2 cr) (Dy c)) (hc:Ps (Dy c)) (hT:Tab G) :
  Ai prog 145 [.agg #[Vi 10,Vi 0,Vi 0,Vi 0,Vi 0,Vi 0,Vi 0,Vn,Vf,Vi 0,Vn,Vn,Af 0,Af 0,Af 0,Af 0,Vi 0,Vi 0,Vi 0,Vi 0,Vf,Vn,Vn,Vi 1,.bool ng,Vi 0,Vi 0,Vi 0,Vi 0,.slice Ar 2 cr,.string ⟨[].toArray⟩,Vi thn,Vi els]] G [] fun r _ H'=>H'=[]∧r=Vi 0:=by
 refine Ai.of_T [(0,_)] func145 rfl ntmps145 sM rfl fun w0 hs=>?_
 have hr0:=hr
 have hT0:=hT
 refine Wt 2 [] hs rfl<|O_s (Sb hs rfl fun b1 _ hs=>Wp 6 [0,0] hs rfl<|O_s (Sc (mI (c:=c) he ht) hs rfl fun v1 G' H' _ hR hG7 hs=>?_))
 obtain ⟨rfl,rfl⟩:=hR
 replace hs:=hs.n rfl
 replace hr:=hr.mono hG7
 replace hT:=hT.mono hG7
 refine Wp 48 [0,0,0,0,0,0,0,0,23,23,0,2,1,41,23,29,0] hs rfl<|O_s (Sc (aQ hc hT hr) hs rfl fun v2 G' H' _ hR hG46 hs=>?_)
 obtain ⟨rfl,vd,Dx,rfl,hz⟩:=hR
 replace hs:=hs.n rfl
 obtain ⟨vc,vn,va,rfl,hzC,hzN,hzA⟩:=hz
 obtain ⟨Cz,cz,rfl⟩:=Be.slice hzC
 obtain ⟨Nz,nz,rfl⟩:=Be.slice hzN
 obtain ⟨Az,az,rfl,_⟩:=id hzA
 refine Wp 3 [] hs rfl<|O_s (Sa hs zeroValue250 rfl fun b4 _ hs=>O_n (Sg hs rfl (rfl) fun _ hs=>Wp 7 [0,0] hs rfl<|Ah<|Zz results145 rfl ?_))
 exact ⟨_,[],hs.done,rfl,rfl⟩
theorem sQ {G:Ghost} {thn els kk:Int} {ng:Bool} (he : -1≤els) (ht:0≤thn) (h0:kk≠0) (hk:Qb kk 0 4096=true)  :
  Ai prog 145 [.agg #[Vi 10,Vi 0,Vi 0,Vi 0,Vi 0,Vi 0,Vi 0,Vn,Vf,Vi 0,Vn,Vn,Af 0,Af 0,Af 0,Af 0,Vi 0,Vi 0,Vi 0,Vi 0,Vf,Vn,Vn,Vi 3,.bool ng,Vi 0,Vi 0,Vi 0,Vi kk,Vn,.string ⟨[].toArray⟩,Vi thn,Vi els]] G [] fun r _ H'=>H'=[]∧r=Vi 0:=by
 refine Ai.of_T [(0,_)] func145 rfl ntmps145 sM rfl fun w0 hs =>Wt 2 [] hs rfl<|O_s (Sb hs rfl fun b1 _ hs=>Wp 6 [0,0] hs rfl<|O_s (Sc (mJ he ht h0 hk) hs rfl fun v1 G' H' _ hR hG7 hs=>?_))
 obtain ⟨rfl,rfl⟩:=hR
 replace hs:=hs.n rfl
 refine Wp 48 [0,0,0,0,0,0,0,0,23,23,0,2,1,41,0] hs rfl<|Ah<|Zz results145 rfl ?_
 exact ⟨_,[],hs.done,rfl,rfl⟩
def Bg (k:Int):Bm:=⟨k,0,0,0,0,0,0,[],false,⟨0,[],[]⟩,0,0,0,0,⟨0,0,0,0,false⟩,[],[],⟨0,false,0,0,0,0,[]⟩,[],-1,-1⟩
def bP (s:Bm):Bool :=
  if s.kind=1 then decide (s={ Bg 1 with x:=s.x,y:=s.y }) && (Ha s.x && Js [s.y])
  else if s.kind=3 then decide (s={ Bg 3 with x:=s.x,y:=s.y,z:=s.z,b:=s.b,last:=s.last,els:=s.els }) && (Ha s.x && (decide (-1≤s.els) && (Js [s.y,s.z] && Qb s.b.length 1 8)))
  else if s.kind=4 then decide (s={ Bg 4 with x:=s.x,y:=s.y,i:=s.i,j:=s.j }) && (Ha s.x && (Js [s.y] && (Qb s.i 0 4096 && Qb s.j (-1) 4096)))
  else if s.kind=6 then decide (s={ Bg 6 with x:=s.x,y:=s.y,op:=s.op,els:=s.els }) && (Ha s.x && (decide (-1≤s.els) && (Js [s.y] && Ki s.op)))
  else if s.kind=7 then decide (s={ Bg 7 with x:=s.x,y:=s.y,c0:=s.c0,c1:=s.c1,c2:=s.c2,c3:=s.c3 }) && (Ha s.x && Js [s.y])
  else if s.kind=8 then decide (s={ Bg 8 with x:=s.x,n:=s.n,rule:=s.rule,els:=s.els }) && (Ha s.x && (decide (-1≤s.els) && (Qb s.n 0 3 && decide (dF s.rule=0))))
  else if s.kind=9 then decide (s={ Bg 9 with x:=s.x,p:=s.p,ys:=s.ys,els:=s.els }) && (Ha s.x && (decide (-1≤s.els) && (decide (s.ys.length=2) && (Js s.ys && match s.p with | [p0,p1]=>decide (Ps p0.r) && decide (Ps p1.r) | _=>false))))
  else if s.kind=10 then decide (s={ Bg 10 with cond:=s.cond,thn:=s.thn,els:=s.els }) && (decide (-1≤s.els) && (decide (0≤s.thn) && ((decide (s.cond=⟨1,s.cond.neg,0,0,0,0,s.cond.r⟩) && decide (Ps s.cond.r)) || (decide (s.cond=⟨3,s.cond.neg,0,0,0,s.cond.k,[]⟩) && (decide (s.cond.k≠0) && Qb s.cond.k 0 4096)))))
  else if s.kind=11 then decide (s={ Bg 11 with i:=s.i,j:=s.j,thn:=s.thn }) && (decide (0≤s.thn) && (Qb s.i 1 8 && Qb s.j 0 999))
  else if s.kind=12 then decide (s=Bg 12)
  else if s.kind=13 then decide (s={ Bg 13 with x:=s.x,name:=s.name }) && (Ha s.x && match s.name with | [b]=>decide (97≤b.toNat) && decide (b.toNat≤122) | _=>false)
  else if s.kind=14 then decide (s={ Bg 14 with i:=s.i }) && (Qb s.i 0 999)
  else false
abbrev cF {α:Type} (v:Value) (l:List α):Prop:=l=[]→v=.slice none 0 0
structure Gt (G:Ghost) (cs:List Value) (s:Bm):Prop where
  ex:∃ vb vo vn vp vy vr,cs=lQ s vb vo vn vp vy vr∧(Cv G vb s.b∧cF vb s.b)∧(Cv G vo s.op.old∧cF vo s.op.old)∧(Cv G vn s.op.new∧cF vn s.op.new)∧(vS G vp s.p∧cF vp s.p)∧(Bt G vy s.ys∧cF vy s.ys)∧(Rx G vr s.cond.r∧cF vr s.cond.r)
theorem Gt.mono {G G':Ghost} (h:G.le G') {cs:List Value} {s:Bm} (hs:Gt G cs s):Gt G' cs s:=by
  obtain ⟨vb,vo,vn,vp,vy,vr,e,⟨h1,k1⟩,⟨h2,k2⟩,⟨h3,k3⟩,⟨h4,k4⟩,⟨h5,k5⟩,⟨h6,k6⟩⟩:=hs
  exact ⟨vb,vo,vn,vp,vy,vr,e,⟨h1.mono h,k1⟩,⟨h2.mono h,k2⟩,⟨h3.mono h,k3⟩,⟨h4.mono h,k4⟩,⟨h5.mono h,k5⟩,⟨h6.mono h,k6⟩⟩
def fA (G:Ghost) (v:Value) (l:List Bm):Prop:=Be 33 Gt G v l
theorem fA.mono {G G':Ghost} (h:G.le G') {v:Value} {l:List Bm} (hl:fA G v l):fA G' v l:=Be.mono (fun _ _ hp=>hp.mono h) h hl
def mK (G:Ghost) (v:Value) (p:By):Prop:=∃ vs vb,v=.agg #[vs,vb]∧fA G vs p.stmts∧LN G vb p.blocks
theorem mK.mono {G G':Ghost} (h:G.le G') {v:Value} {p:By} (hp:mK G v p):mK G' v p:=by
  obtain ⟨vs,vb,e,h1,h2⟩:=hp
  exact ⟨vs,vb,e,h1.mono h,h2.mono h⟩
theorem Gt.len {G:Ghost} {cs:List Value} {s:Bm} (h:Gt G cs s):cs.length=33:=by
  obtain ⟨vb,vo,vn,vp,vy,vr,e,_⟩:=h
  rw [e];rfl
theorem chk_any {G:Ghost} {cs:List Value} {s:Bm} (h:Gt G cs s) (hk:bP s=true) (hT:Tab G):Ai prog 145 [.agg cs.toArray] G [] fun r _ H'=>H'=[]∧r=Vi 0:=by
  obtain ⟨vb,vo,vn,vp,vy,vr,rfl,⟨hb,nb⟩,⟨ho1,no⟩,⟨ho2,nn⟩,⟨hp,np⟩,⟨hy,ny⟩,⟨hr,nr⟩⟩:=h
  unfold bP at hk
  by_cases h1:s.kind=1
  · rw [if_pos h1] at hk
    simp only [Bool.and_eq_true,decide_eq_true_eq] at hk
    obtain ⟨he,hx,ht⟩:=hk
    obtain ⟨kind,x,y,z,n,i,j,b,last,op,c0,c1,c2,c3,rule,p,ys,cond,name,thn,els⟩:=s
    dsimp only at *
    simp only [Bg,Bm.mk.injEq] at he
    obtain ⟨rfl,_,_,rfl,rfl,rfl,rfl,rfl,rfl,rfl,rfl,rfl,rfl,rfl,rfl,rfl,rfl,rfl,rfl,rfl,rfl⟩:=he
    obtain rfl:=nb rfl
    obtain rfl:=no rfl
    obtain rfl:=nn rfl
    obtain rfl:=np rfl
    obtain rfl:=ny rfl
    obtain rfl:=nr rfl
    exact chk1_ok hx ht
  rw [if_neg h1] at hk
  by_cases h3:s.kind=3
  · rw [if_pos h3] at hk
    simp only [Bool.and_eq_true,decide_eq_true_eq] at hk
    obtain ⟨he,hx,hl,ht,hbl⟩:=hk
    obtain ⟨kind,x,y,z,n,i,j,b,last,op,c0,c1,c2,c3,rule,p,ys,cond,name,thn,els⟩:=s
    dsimp only at *
    simp only [Bg,Bm.mk.injEq] at he
    obtain ⟨rfl,_,_,_,rfl,rfl,rfl,_,_,rfl,rfl,rfl,rfl,rfl,rfl,rfl,rfl,rfl,rfl,rfl,_⟩:=he
    obtain rfl:=no rfl
    obtain rfl:=nn rfl
    obtain rfl:=np rfl
    obtain rfl:=ny rfl
    obtain rfl:=nr rfl
    obtain ⟨Ab,cb,rfl,_⟩:=id hb
    exact chk3_ok hx hl ht hbl
  rw [if_neg h3] at hk
  by_cases h4:s.kind=4
  · rw [if_pos h4] at hk
    simp only [Bool.and_eq_true,decide_eq_true_eq] at hk
    obtain ⟨he,hx,ht,hi,hj⟩:=hk
    obtain ⟨kind,x,y,z,n,i,j,b,last,op,c0,c1,c2,c3,rule,p,ys,cond,name,thn,els⟩:=s
    dsimp only at *
    simp only [Bg,Bm.mk.injEq] at he
    obtain ⟨rfl,_,_,rfl,rfl,_,_,rfl,rfl,rfl,rfl,rfl,rfl,rfl,rfl,rfl,rfl,rfl,rfl,rfl,rfl⟩:=he
    obtain rfl:=nb rfl
    obtain rfl:=no rfl
    obtain rfl:=nn rfl
    obtain rfl:=np rfl
    obtain rfl:=ny rfl
    obtain rfl:=nr rfl
    exact chk4_ok hx ht hi hj
  rw [if_neg h4] at hk
  by_cases h6:s.kind=6
  · rw [if_pos h6] at hk
    simp only [Bool.and_eq_true,decide_eq_true_eq] at hk
    obtain ⟨he,hx,hl,ht,hv⟩:=hk
    obtain ⟨kind,x,y,z,n,i,j,b,last,op,c0,c1,c2,c3,rule,p,ys,cond,name,thn,els⟩:=s
    dsimp only at *
    simp only [Bg,Bm.mk.injEq] at he
    obtain ⟨rfl,_,_,rfl,rfl,rfl,rfl,rfl,rfl,_,rfl,rfl,rfl,rfl,rfl,rfl,rfl,rfl,rfl,rfl,_⟩:=he
    obtain rfl:=nb rfl
    obtain rfl:=np rfl
    obtain rfl:=ny rfl
    obtain rfl:=nr rfl
    obtain ⟨A1,k1,rfl,_⟩:=id ho1
    obtain ⟨A2,k2,rfl,_⟩:=id ho2
    exact chk6_ok (o:=op) hx hl ht ho1 ho2 hv
  rw [if_neg h6] at hk
  by_cases h7:s.kind=7
  · rw [if_pos h7] at hk
    simp only [Bool.and_eq_true,decide_eq_true_eq] at hk
    obtain ⟨he,hx,ht⟩:=hk
    obtain ⟨kind,x,y,z,n,i,j,b,last,op,c0,c1,c2,c3,rule,p,ys,cond,name,thn,els⟩:=s
    dsimp only at *
    simp only [Bg,Bm.mk.injEq] at he
    obtain ⟨rfl,_,_,rfl,rfl,rfl,rfl,rfl,rfl,rfl,_,_,_,_,rfl,rfl,rfl,rfl,rfl,rfl,rfl⟩:=he
    obtain rfl:=nb rfl
    obtain rfl:=no rfl
    obtain rfl:=nn rfl
    obtain rfl:=np rfl
    obtain rfl:=ny rfl
    obtain rfl:=nr rfl
    exact chk7_ok hx ht
  rw [if_neg h7] at hk
  by_cases h8:s.kind=8
  · rw [if_pos h8] at hk
    simp only [Bool.and_eq_true,decide_eq_true_eq] at hk
    obtain ⟨he,hx,hl,hn,hq⟩:=hk
    obtain ⟨kind,x,y,z,n,i,j,b,last,op,c0,c1,c2,c3,rule,p,ys,cond,name,thn,els⟩:=s
    dsimp only at *
    simp only [Bg,Bm.mk.injEq] at he
    obtain ⟨rfl,_,rfl,rfl,_,rfl,rfl,rfl,rfl,rfl,rfl,rfl,rfl,rfl,_,rfl,rfl,rfl,rfl,rfl,_⟩:=he
    obtain rfl:=nb rfl
    obtain rfl:=no rfl
    obtain rfl:=nn rfl
    obtain rfl:=np rfl
    obtain rfl:=ny rfl
    obtain rfl:=nr rfl
    exact chk8_ok (q:=rule) hx hl hn hq
  rw [if_neg h8] at hk
  by_cases h9:s.kind=9
  · rw [if_pos h9] at hk
    simp only [Bool.and_eq_true,decide_eq_true_eq] at hk
    obtain ⟨he,hx,hl,hyl,ht,hpp⟩:=hk
    obtain ⟨kind,x,y,z,n,i,j,b,last,op,c0,c1,c2,c3,rule,p,ys,cond,name,thn,els⟩:=s
    dsimp only at *
    simp only [Bg,Bm.mk.injEq] at he
    obtain ⟨rfl,_,rfl,rfl,rfl,rfl,rfl,rfl,rfl,rfl,rfl,rfl,rfl,rfl,rfl,_,_,rfl,rfl,rfl,_⟩:=he
    obtain rfl:=nb rfl
    obtain rfl:=no rfl
    obtain rfl:=nn rfl
    obtain rfl:=nr rfl
    split at hpp
    · rename_i p0 p1
      simp only [Bool.and_eq_true,decide_eq_true_eq] at hpp
      obtain ⟨Ap,cp,rfl⟩:∃ A c,vp=.slice A 2 c:=Be.slice hp
      obtain ⟨Ay,cy,rfl,_⟩:=id hy
      exact chk9_ok hx hl hy oM ht hp hpp.1 hpp.2 hT hyl
    · cases hpp
  rw [if_neg h9] at hk
  by_cases h10:s.kind=10
  · rw [if_pos h10] at hk
    simp only [Bool.and_eq_true,Bool.or_eq_true,decide_eq_true_eq] at hk
    obtain ⟨he,hl,ht,hcc⟩:=hk
    obtain ⟨kind,x,y,z,n,i,j,b,last,op,c0,c1,c2,c3,rule,p,ys,cond,name,thn,els⟩:=s
    dsimp only at *
    simp only [Bg,Bm.mk.injEq] at he
    obtain ⟨rfl,rfl,rfl,rfl,rfl,rfl,rfl,rfl,rfl,rfl,rfl,rfl,rfl,rfl,rfl,rfl,rfl,_,rfl,_,_⟩:=he
    obtain rfl:=nb rfl
    obtain rfl:=no rfl
    obtain rfl:=nn rfl
    obtain rfl:=np rfl
    obtain rfl:=ny rfl
    obtain ⟨ck,cg,cx,cy,cn,cc,cr⟩:=cond
    dsimp only at *
    rcases hcc with ⟨hc,hsm⟩ | ⟨hc,h0,hkk⟩
    · simp only [Nc.mk.injEq] at hc
      obtain ⟨rfl,_,rfl,rfl,rfl,rfl,_⟩:=hc
      have hl2:cr.length=2:=by rcases hsm with rfl | rfl | rfl<;>rfl
      obtain ⟨c,rfl⟩:∃ c,cr=Dy c:=by rcases hsm with rfl | rfl | rfl<;>exact ⟨_,rfl⟩
      obtain ⟨Ar,kr,rfl⟩:∃ A c,vr=.slice A 2 c:=Be.slice hr
      exact sP (c:=c) hl ht hr hsm hT
    · simp only [Nc.mk.injEq] at hc
      obtain ⟨rfl,_,rfl,rfl,rfl,_,rfl⟩:=hc
      obtain rfl:=nr rfl
      exact sQ hl ht h0 hkk
  rw [if_neg h10] at hk
  by_cases h11:s.kind=11
  · rw [if_pos h11] at hk
    simp only [Bool.and_eq_true,decide_eq_true_eq] at hk
    obtain ⟨he,ht,hi,hj⟩:=hk
    obtain ⟨kind,x,y,z,n,i,j,b,last,op,c0,c1,c2,c3,rule,p,ys,cond,name,thn,els⟩:=s
    dsimp only at *
    simp only [Bg,Bm.mk.injEq] at he
    obtain ⟨rfl,rfl,rfl,rfl,rfl,_,_,rfl,rfl,rfl,rfl,rfl,rfl,rfl,rfl,rfl,rfl,rfl,rfl,_,rfl⟩:=he
    obtain rfl:=nb rfl
    obtain rfl:=no rfl
    obtain rfl:=nn rfl
    obtain rfl:=np rfl
    obtain rfl:=ny rfl
    obtain rfl:=nr rfl
    exact xU ht hi hj
  rw [if_neg h11] at hk
  by_cases h12:s.kind=12
  · rw [if_pos h12] at hk
    simp only [Bool.and_eq_true,decide_eq_true_eq] at hk
    have he:=hk
    obtain ⟨kind,x,y,z,n,i,j,b,last,op,c0,c1,c2,c3,rule,p,ys,cond,name,thn,els⟩:=s
    dsimp only at *
    simp only [Bg,Bm.mk.injEq] at he
    obtain ⟨rfl,rfl,rfl,rfl,rfl,rfl,rfl,rfl,rfl,rfl,rfl,rfl,rfl,rfl,rfl,rfl,rfl,rfl,rfl,rfl,rfl⟩:=he
    obtain rfl:=nb rfl
    obtain rfl:=no rfl
    obtain rfl:=nn rfl
    obtain rfl:=np rfl
    obtain rfl:=ny rfl
    obtain rfl:=nr rfl
    exact xV
  rw [if_neg h12] at hk
  by_cases h13:s.kind=13
  · rw [if_pos h13] at hk
    simp only [Bool.and_eq_true,decide_eq_true_eq] at hk
    obtain ⟨he,hx,hnm⟩:=hk
    obtain ⟨kind,x,y,z,n,i,j,b,last,op,c0,c1,c2,c3,rule,p,ys,cond,name,thn,els⟩:=s
    dsimp only at *
    simp only [Bg,Bm.mk.injEq] at he
    obtain ⟨rfl,_,rfl,rfl,rfl,rfl,rfl,rfl,rfl,rfl,rfl,rfl,rfl,rfl,rfl,rfl,rfl,rfl,_,rfl,rfl⟩:=he
    obtain rfl:=nb rfl
    obtain rfl:=no rfl
    obtain rfl:=nn rfl
    obtain rfl:=np rfl
    obtain rfl:=ny rfl
    obtain rfl:=nr rfl
    split at hnm
    · rename_i b0
      simp only [Bool.and_eq_true,decide_eq_true_eq] at hnm
      exact xW hx hnm.1 hnm.2
    · cases hnm
  rw [if_neg h13] at hk
  by_cases h14:s.kind=14
  · rw [if_pos h14] at hk
    simp only [Bool.and_eq_true,decide_eq_true_eq] at hk
    obtain ⟨he,hi⟩:=hk
    obtain ⟨kind,x,y,z,n,i,j,b,last,op,c0,c1,c2,c3,rule,p,ys,cond,name,thn,els⟩:=s
    dsimp only at *
    simp only [Bg,Bm.mk.injEq] at he
    obtain ⟨rfl,rfl,rfl,rfl,rfl,_,rfl,rfl,rfl,rfl,rfl,rfl,rfl,rfl,rfl,rfl,rfl,rfl,rfl,rfl,rfl⟩:=he
    obtain rfl:=nb rfl
    obtain rfl:=no rfl
    obtain rfl:=nn rfl
    obtain rfl:=np rfl
    obtain rfl:=ny rfl
    obtain rfl:=nr rfl
    exact xX hi
  rw [if_neg h14] at hk
  cases hk
theorem fB {l:List Bool} {i:Int} (h:i<0∨(l.length:Int)≤i∨l.getD i.toNat false=true):Hv l i=none:=if_pos h
theorem pC {l:List Bool} {i:Int} (h:¬ (i<0∨(l.length:Int)≤i∨l.getD i.toNat false=true)):Hv l i=some (l.set i.toNat true):=if_neg h
theorem mL {G:Ghost} {bv n:Nat} {l:List Bool} {i:Int} (hl:l.length=n) (hn:n≤100000) :
  Ai prog 168 [Vs bv n n,Vi i] G [.row 4 1 (Vs bv n n) n (l.map Bb)] fun r _ H'=>H'=[.row 4 1 (Vs bv n n) n (((Hv l i).getD l).map Bb)]∧r=.bool (Hv l i).isSome:=by
 subst hl
 refine Ai.of_T [(0,_),(1,_)] func168 rfl ntmps168 sM rfl fun w0 hs =>Wt 8 [0] hs rfl<|Zy hs (Yc rfl (fun h6=>?_) fun h6=>?_)
 ·
  refine Wp 18 [0,0] hs rfl<|Ah<|Zz results168 rfl ?_
  exact ⟨_,_,hs,by rw [fB (Or.inl oM)];exact ⟨rfl,rfl⟩⟩
 refine Wp 4 [] hs rfl<|Zg hs rfl (Yc rfl (fun h11=>?_) fun h11=>?_)
 ·
  refine Wp 13 [0,0] hs rfl<|Ah<|Zz results168 rfl ?_
  exact ⟨_,_,hs,by rw [fB (Or.inr (Or.inl oM))];exact ⟨rfl,rfl⟩⟩
 obtain ⟨k,rfl⟩:∃ k:Nat,i=(k:Int):=Int.eq_ofNat_of_zero_le oM
 refine Wp 4 [] hs rfl<|Zg hs rfl (Bj (k) underlying64 sizeOf4 rfl rfl rfl oM ?_)
 obtain ⟨q17,hq17⟩:∃ q,q=l[k]'oM:=⟨_,rfl⟩
 refine Zg hs rfl (Dg 0 rfl isAgg4 rfl (show (l.map Bb)[k]?=some (.bool q17) from by rw [hq17];exact Ix oM) ?_)
 cases q17
 ·
  refine Wp 8 [0] hs rfl<|Zy hs (Bj (k) underlying64 sizeOf4 rfl rfl rfl oM<|O_n (Ct hs sizeOf4 rfl rfl rfl oM fun _ hs =>Wp 5 [0,1,4] hs rfl<|Ah<|Zz results168 rfl ?_))
  have hv:=pC (l:=l) (i:=(k:Int)) (by rw [Int.toNat_natCast,Bn oM,← hq17];rintro (h | h | h);omega;omega;cases h)
  exact ⟨_,_,hs,by rw [hv,Int.toNat_natCast];exact ⟨by simp [List.map_set,Bb],rfl⟩⟩
 refine Wp 7 [0,0] hs rfl<|Ah<|Zz results168 rfl ?_
 exact ⟨_,_,hs,by rw [fB (Or.inr (Or.inr (by rw [Int.toNat_natCast,Bn oM];exact hq17.symm)))];exact ⟨rfl,rfl⟩⟩
theorem bidx_ok {G:Ghost} {v:Value} {l:List Bool} {x:Bool} (hl:Hq G v l) (hn:l.length≤1000000) :
  Ai prog 196 [v,.bool x] G [] fun r _ H'=>H'=[]∧∃ z:Int,r=Vi z∧(0≤z↔x∈l):=by
 obtain ⟨Al,cl,rfl,_⟩:=id hl
 refine Ai.of_T [(0,_),(1,_)] func196 rfl ntmps196 sM rfl fun w0 hs=>?_
 have hl0:=hl
 refine Wt 11 [0,0] hs rfl<|Zl [0,1,7,8] (fun m E w=>∃ (k:Nat) (G2:Ghost),k≤l.length∧x∉l.take k∧m=l.length-k∧E=⟨[],[(0,(.slice Al l.length cl)),(1,.bool x),(7,Vi ((l.length:Nat):Int)),(8,Vi (k:Int))]⟩∧St ⟨w0,G,Bl []⟩ G2 [] w) rfl (⟨0,_,by omega,by simp,rfl,rfl,hs⟩) fun m E w hI=>?_
 obtain ⟨k,G2,hk,hx,rfl,rfl,hs⟩:=hI
 have hl:=hl0.mono hs.le
 refine Wt 2 [] hs rfl<|Zy hs (Yc rfl (fun h9=>?_) fun h9=>?_)
 ·
  refine Wp 16 [0,0] hs rfl<|Zy hs (Jc k underlying64 sizeOf4 hl rfl rfl rfl (Ix oM) fun p14 hp14 =>Zy hs (Yg rfl (hp14)<|Zy hs (qW underlying4 rfl rfl (fun h16=>?_) (fun h16=>?_))))
  ·
   refine Wp 7 [0,0] hs rfl<|Ah<|Zz results196 rfl ?_
   exact ⟨_,[],hs.done,rfl,_,rfl,⟨fun _=>by rw [show x=l[k]'oM from h16];exact List.getElem_mem _,fun _=>by omega⟩⟩
  refine Wp 4 [0] hs rfl<|Zy hs (Ya (s:=((k+1:Nat):Int)) rfl<|Wp 1 [] hs rfl<|Zx [0,1,7,8] rfl ⟨k+1,_,by omega,by rw [List.take_add_one,List.getElem?_eq_getElem oM];intro h;rcases List.mem_append.1 h with h | h;exact hx h;exact h16 bT,rfl,rfl,hs⟩)
 refine Wp 4 [0] hs rfl<|Wu 4 [0] hs rfl<|Ah<|Zz results196 rfl ?_
 obtain rfl:k=l.length:=by omega
 rw [List.take_length] at hx
 exact ⟨_,[],hs.done,rfl,_,rfl,⟨fun h=>by omega,fun h=>absurd h hx⟩⟩
theorem pD {G:Ghost} {v:Value} {l:List Bool} {x:Bool} (hl:Hq G v l) (hn:l.length≤1000000) :
  Ai prog 169 [v,.bool x] G [] fun r _ H'=>H'=[]∧r=.bool (l.contains x):=by
 refine Ai.of_T [(0,_),(1,_)] func169 rfl ntmps169 sM rfl fun w0 hs=>?_
 have hl0:=hl
 refine Wt 8 [0] hs rfl<|O_s (Sc (bidx_ok hl hn) hs rfl fun v1 G' H' _ hR hG7 hs=>?_)
 obtain ⟨rfl,z,rfl,hz⟩:=hR
 replace hs:=hs.n rfl
 refine Zy hs (Yc rfl (fun h8=>?_) fun h8=>?_)
 ·
  refine Wp 2 [0] hs rfl<|Ah<|Zz results169 rfl ?_
  exact ⟨_,[],hs.done,rfl,congrArg Value.bool (by rw [List.contains_iff_mem.2 (hz.1 oM)])⟩
 refine Wp 2 [0] hs rfl<|Ah<|Zz results169 rfl ?_
 exact ⟨_,[],hs.done,rfl,congrArg Value.bool (by rw [eq_comm,Bool.eq_false_iff];intro h;exact absurd (hz.2 (List.contains_iff_mem.1 h)) oM)⟩
theorem Gt.at_ {G:Ghost} {cs:List Value} {s:Bm} (h:Gt G cs s):cs[31]?=some (Vi s.thn)∧cs[32]?=some (Vi s.els):=by
  obtain ⟨vb,vo,vn,vp,vy,vr,rfl,_⟩:=h
  exact ⟨rfl,rfl⟩
theorem Uo {p:By} (l:List Nat):l.foldl (Nf p) none=none:=by
  induction l with
  | nil=>rfl
  | cons a l ih=>rw [List.foldl_cons];exact ih
theorem fold_go {p:By} {i:Nat} {l:List Nat} {t T:Ii} (h:(i::l).foldl (Nf p) (some t)=some T):∃ s sm t2,Hv t.stmts i=some s∧p.stmts[i]?=some sm∧Hw (Hw (some ⟨t.blocks,s,t.todo⟩) sm.thn) sm.els=some t2∧l.foldl (Nf p) (some t2)=some T:=by
  rw [List.foldl_cons] at h
  cases hv:Hv t.stmts i with
  | none=>rw [show Nf p (some t) i=none by simp only [Nf,hv],Uo] at h;cases h
  | some s =>
    cases hs:p.stmts[i]? with
    | none=>rw [show Nf p (some t) i=none by simp only [Nf,hv,hs],Uo] at h;cases h
    | some sm =>
      have e:Nf p (some t) i=Hw (Hw (some ⟨t.blocks,s,t.todo⟩) sm.thn) sm.els:=by simp only [Nf,hv,hs]
      rw [e] at h
      cases hn:Hw (Hw (some ⟨t.blocks,s,t.todo⟩) sm.thn) sm.els with
      | none=>rw [hn,Uo] at h;cases h
      | some t2=>rw [hn] at h;exact ⟨s,sm,t2,rfl,rfl,hn,h⟩
theorem dT {t:Ii}:Hw (some t) (-1)=some t:=by simp [Hw]
theorem pE {t t2:Ii} {x:Int} (hx:¬ x=-1) (h:Hw (some t) x=some t2):∃ b,Hv t.blocks x=some b∧t2=⟨b,t.stmts,t.todo++[x.toNat]⟩:=by
  unfold Hw at h
  dsimp only at h
  rw [if_neg hx] at h
  cases hv:Hv t.blocks x with
  | none=>rw [hv] at h;cases h
  | some b=>rw [hv] at h;injection h with h;exact ⟨b,rfl,h.symm⟩
theorem Lu {l b:List Bool} {x:Int} (h:Hv l x=some b):b.length=l.length∧0≤x∧x<l.length∧b.count false+1=l.count false:=by
  unfold Hv at h
  split at h
  · cases h
  · rename_i h0
    injection h with h;subst h
    have h1:x.toNat<l.length:=by omega
    have h2:l[x.toNat]=false:=by
      have:¬ l.getD x.toNat false=true:=fun e=>h0 (Or.inr (Or.inr e))
      rw [Bn h1] at this;simpa using this
    exact ⟨by simp,by omega,by omega,Pc h1 h2⟩
theorem xY {p:By} {f b:Nat} {B S:List Bool} {l:List Nat} {T:Ii} (h:Qc p (f+1) ⟨B,S,b::l⟩=some (some T)):∃ t,(p.blocks.getD b []).foldl (Nf p) (some ⟨B,S,l⟩)=some t∧Qc p f t=some (some T):=by
  rw [Qc] at h
  simp only at h
  split at h
  · injection h with h;cases h
  · rename_i t ht;exact ⟨t,ht,h⟩
theorem sR {p:By} {f:Nat} {B S:List Bool} {T:Ii} (h:Qc p f ⟨B,S,[]⟩=some (some T)):T=⟨B,S,[]⟩:=by
  cases f with
  | zero=>cases h
  | succ f=>rw [Qc] at h;injection h with h;injection h with h;exact h.symm
theorem sS {p:By} {f:Nat} {t T:Ii} (h:Qc p f t=some (some T)):0<f:=by
  cases f with
  | zero=>cases h
  | succ f=>omega
structure Vz (p:By) (t:Ii):Prop where
  b:t.blocks.length=p.blocks.length
  s:t.stmts.length=p.stmts.length
  c:t.todo.length+t.blocks.count false≤p.blocks.length
  d:∀ b∈t.todo,b<p.blocks.length
theorem Vz.visit {p:By} {B S s:List Bool} {D:List Nat} {i:Int} (h:Vz p ⟨B,S,D⟩) (hv:Hv S i=some s):Vz p ⟨B,s,D⟩:=⟨h.b,(Lu hv).1.trans h.s,h.c,h.d⟩
theorem Vz.next {p:By} {t t2:Ii} {x:Int} (h:Vz p t) (hn:Hw (some t) x=some t2):Vz p t2:=by
  by_cases hx:x=-1
  · rw [hx,dT] at hn;injection hn with hn;subst hn;exact h
  · obtain ⟨b,hv,rfl⟩:=pE hx hn
    obtain ⟨h1,h2,h3,h4⟩:=Lu hv
    have hc:=h.c
    have hb:=h.b
    refine ⟨h1.trans h.b,h.s,?_,fun y hy=>?_⟩
    · simp only [List.length_append,List.length_singleton];omega
    · rcases List.mem_append.1 hy with hy | hy
      · exact h.d y hy
      · rw [List.mem_singleton.1 hy];omega
theorem Vz.pop {p:By} {B S:List Bool} {b:Nat} {D:List Nat} (h:Vz p ⟨B,S,b::D⟩):Vz p ⟨B,S,D⟩∧b<p.blocks.length:=by
  have hc:=h.c
  simp only [List.length_cons] at hc
  exact ⟨⟨h.b,h.s,by simp only;omega,fun y hy=>h.d y (List.mem_cons_of_mem _ hy)⟩,h.d b sM⟩
theorem mM (l:List Int):l.foldl Hw none=none:=by
  induction l with
  | nil=>rfl
  | cons a l ih=>rw [List.foldl_cons];exact ih
theorem xZ {x:Int} {l:List Int} {t T:Ii} (h:(x::l).foldl Hw (some t)=some T):∃ t',Hw (some t) x=some t'∧l.foldl Hw (some t')=some T:=by
  rw [List.foldl_cons] at h
  cases hn:Hw (some t) x with
  | none=>rw [hn,mM] at h;cases h
  | some t'=>rw [hn] at h;exact ⟨t',rfl,h⟩
theorem jH {cur:Array Value} {o n cap:Nat} {l:List Nat} {x:Int} (h:Nl cur o n cap (l.map Cm++[Vi x])) (hx:0≤x):Nl cur o n cap ((l++[x.toNat]).map Cm):=by
  have e:Cm x.toNat=Vi x:=congrArg (Value.int .i64) (Int.toNat_of_nonneg hx)
  rw [List.map_append,List.map_singleton,e];exact h
theorem mN {p:By} (h:iL p=some true):∃ T,Qc p (p.blocks.length+1) ⟨(List.replicate p.blocks.length false).set 0 true,List.replicate p.stmts.length false,[0]⟩=some (some T)∧T.blocks.contains false=false∧T.stmts.contains false=false:=by
  unfold iL at h
  split at h
  · cases h
  · injection h with h;cases h
  · rename_i t ht
    injection h with h
    simp only [Bool.and_eq_true,Bool.not_eq_true'] at h
    exact ⟨t,ht,h.1,h.2⟩
theorem tree_ok {G:Ghost} {v:Value} {p:By} (hp:mK G v p) (ht:iL p=some true) (hb1:1≤p.blocks.length) (hbn:p.blocks.length≤129) (hsn:p.stmts.length≤64) (hbl:∀ l∈p.blocks,l.length≤1000) :
  Ai prog 146 [v] G [] fun r _ H'=>H'=[]∧r=Vt:=by
 obtain ⟨vs,vb,rfl,hS,hB⟩:=hp
 obtain ⟨As,cs,rfl⟩:=Be.slice hS
 obtain ⟨Ab,cb,rfl⟩:=Be.slice hB
 obtain ⟨T,htg0,hcb,hcs⟩:=mN ht
 have h00:Hv (List.replicate p.blocks.length false) 0=some ((List.replicate p.blocks.length false).set 0 true):=pC (by rw [List.length_replicate];rintro (h | h | h);omega;omega;rw [Int.toNat_zero,Bn (by rw [List.length_replicate];omega)] at h;simp at h)
 refine Ai.of_T [(0,_)] func146 rfl ntmps146 sM rfl fun w0 hs=>?_
 have hS0:=hS
 have hB0:=hB
 refine Wt 2 [] hs rfl<|O_s (Sb hs rfl fun b1 _ hs=>Wp 2 [0] hs rfl<|Xu (fun E w=>∃ (bB bS:Nat) (G2:Ghost),fA G2 (.slice As p.stmts.length cs) p.stmts∧LN G2 (.slice Ab p.blocks.length cb) p.blocks∧E=⟨[],[(1,Vp b1),(3,Vs bB p.blocks.length p.blocks.length),(4,Vs bS p.stmts.length p.stmts.length)]⟩∧St ⟨w0,G,Bl []⟩ G2 [.row 4 1 (Vs bB p.blocks.length p.blocks.length) p.blocks.length ((List.replicate p.blocks.length false).map Bb),.row 4 1 (Vs bS p.stmts.length p.stmts.length) p.stmts.length ((List.replicate p.stmts.length false).map Bb),.blk b1 102 [.slice As p.stmts.length cs,.slice Ab p.blocks.length cb]] w) ?_ ?_)
 ·
  refine Bc [0,1,2,3,4,5,6,7,8,9] hs kR ?_
  replace hs:=hs.drew
  refine Xr [0,1,2,4,5,6] [1,0,0,0] hs rfl<|Kq 3 7 rfl rfl kR rfl rfl ?_ ?_
  ·
   have hle:=hs.le
   refine Fx (n:=p.blocks.length) (m:=p.blocks.length) hs underlying64 oN rfl rfl rfl oM oM oM fun b15 _ hs =>Am hs hle (gLr _) (List.sublist_cons_self _ _)<|Xr [8] [] hs rfl ?_
   have hle:=hs.le
   refine Xo 7 rfl (Fx (n:=p.stmts.length) (m:=p.stmts.length) hs underlying64 oN rfl rfl rfl oM oM oM fun b19 _ hs =>Am hs hle (gLr _) (List.sublist_cons_self _ _)<|Xr [9] [] hs rfl ?_)
   have hs:=hs.f2.f1.f2
   rw [Lp,Lp] at hs
   exact Qh kR (⟨[(1,_),(3,_),(4,_)],⟨rfl,rfl,rfl,trivial⟩,⟨_,_,_,hS,hB,rfl,hs⟩⟩)
  have hle:=hs.le
  refine Fx (n:=p.stmts.length) (m:=p.stmts.length) hs underlying64 oN rfl rfl rfl oM oM oM fun b19 _ hs =>Am hs hle (gLr _) (List.sublist_cons_self _ _) ?_
  have hle:=hs.le
  refine Xo 3 rfl (Fx (n:=p.blocks.length) (m:=p.blocks.length) hs underlying64 oN rfl rfl rfl oM oM oM fun b15 _ hs =>Am hs hle (gLr _) (List.sublist_cons_self _ _)<|Xr [8,9] [] hs rfl ?_)
  have hs:=hs.f2.f2.f2
  rw [Lp,Lp] at hs
  exact Qh kR (⟨[(1,_),(3,_),(4,_)],⟨rfl,rfl,rfl,trivial⟩,⟨_,_,_,hS,hB,rfl,hs⟩⟩)
 clear hs
 intro E w hI
 obtain ⟨bB,bS,G2,hS,hB,rfl,hs⟩:=hI
 have hS:=hS0.mono hs.le
 have hB:=hB0.mono hs.le
 refine Wt 8 [0] hs rfl<|O_s (Cb (args:=[_,_]) (lb:=[]) (H1:=[_]) hs rfl rfl func168 rfl kR (mL (l:=(List.replicate p.blocks.length false)) (i:=0) List.length_replicate oM) fun v1 G' H' _ hR hG22 hs=>?_)
 obtain ⟨rfl,rfl⟩:=hR
 replace hs:=hs.n rfl
 replace hS:=hS.mono hG22
 replace hB:=hB.mono hG22
 simp only [h00,Option.getD_some,Option.isSome_some] at hs ⊢
 refine Wp 3 [0] hs rfl<|O_s (Se hs zeroValue3 rfl fun v2 _ hs _=>Wp 2 [0] hs rfl ?_)
 obtain ⟨bq,cur,cap,rfl,hq,hs⟩:=hs.toQue dC
 have hs:=hs.f3.f3.f3.f3
 refine Wu 1 [] hs rfl<|Zl [1,3,4,5,6] (fun m E w=>∃ (f:Nat) (bq o n cap:Nat) (cur:Array Value) (t:Ii) (G2:Ghost),Qc p f t=some (some T)∧Vz p t∧Nl cur o n cap (t.todo.map Cm)∧fA G2 (.slice As p.stmts.length cs) p.stmts∧LN G2 (.slice Ab p.blocks.length cb) p.blocks∧m=f∧E=⟨[],[(1,Vp b1),(3,Vs bB p.blocks.length p.blocks.length),(4,Vs bS p.stmts.length p.stmts.length),(5,.func (.func 168) #[] #[]),(6,.slice (some ⟨bq,o,none⟩) n cap)]⟩∧St ⟨w0,G,Bl []⟩ G2 [.obj bq (.cells cur 3 (0,0)),.row 4 1 (Vs bB p.blocks.length p.blocks.length) p.blocks.length (t.blocks.map Bb),.row 4 1 (Vs bS p.stmts.length p.stmts.length) p.stmts.length (t.stmts.map Bb),.blk b1 102 [.slice As p.stmts.length cs,.slice Ab p.blocks.length cb]] w) rfl (⟨_,bq,0,1,cap,cur,_,_,htg0,⟨by simp,by simp,by simp only [List.length_singleton];rw [Nat.add_comm,Pc Nj sM];simp,by intro b hb;rw [List.mem_singleton.1 hb];omega⟩,hq,hS,hB,rfl,rfl,hs⟩) fun m E w hI=>?_
 obtain ⟨f,bq,o,n,cap,cur,t,G2,htg,hok,hq,hS,hB,rfl,rfl,hs⟩:=hI
 have hS:=hS0.mono hs.le
 have hB:=hB0.mono hs.le
 refine Wt 5 [] hs rfl<|Zy hs (Yc rfl (fun h26=>?_) fun h26=>?_)
 ·
  refine Wp 3 [0] hs rfl ?_
  have hpos:=sS htg
  obtain ⟨f1,rfl⟩:∃ g,m=g+1:=⟨m-1,by omega⟩
  obtain ⟨tb,ts,td⟩:=t
  have hqn:=hq.len
  obtain ⟨b0,td,rfl⟩:∃ b l,td=b::l:=by cases td with | nil=>(exfalso;simp only [List.map_nil,List.length_nil] at hqn;omega) | cons b l=>exact ⟨b,l,rfl⟩
  dsimp only at *
  obtain ⟨t1,hfold,htg1⟩:=xY htg
  obtain ⟨hok1,hb0⟩:=hok.pop
  have hgb:=Bn (d:=([]:List Nat)) hb0
  have hqt:=hq.tail
  have hqle:=hq.le
  refine Wu 4 [] hs rfl<|Zy hs (uR 0 underlying33 sizeOf3 rfl rfl rfl oM<|Zy hs (Y_queLd 0 rfl isAgg3 rfl (hq.get 0 _ rfl)<|Wp 5 [0] hs rfl<|Zy hs (rH underlying33 sizeOf3 rfl rfl rfl oM hqle<|Wp 7 [0,1,3] hs rfl<|Zy hs (Bv hB b0 underlying41 sizeOf33 rfl rfl rfl oM fun p35 c35 hp35 hc35 hR35=>?_))))
  obtain ⟨bl,hble⟩:∃ r,r=p.blocks[b0]'hb0:=⟨_,rfl⟩
  rw [← hble] at hR35
  have hbll:bl.length≤1000:=hbl bl Z30
  obtain ⟨u35,rfl,hbl⟩:=hR35
  obtain ⟨Abl,cbl,rfl,_⟩:=id hbl
  refine Zy hs (Yg rfl (hp35 0 (.slice Abl bl.length cbl) rfl)<|Wp 3 [0] hs rfl ?_)
  have hs:=hs.f3.f3.f3.f3
  rw [hgb,← hble] at hfold
  refine Zl [1,3,4,5,6,36,37,38] (fun m E w=>∃ (k:Nat) (bq o n cap:Nat) (cur:Array Value) (t:Ii) (G2:Ghost),k≤bl.length∧(bl.drop k).foldl (Nf p) (some t)=some t1∧Vz p t∧Nl cur o n cap (t.todo.map Cm)∧fA G2 (.slice As p.stmts.length cs) p.stmts∧LN G2 (.slice Ab p.blocks.length cb) p.blocks∧Cr G2 (.slice Abl bl.length cbl) bl∧m=bl.length-k∧E=⟨[],[(1,Vp b1),(3,Vs bB p.blocks.length p.blocks.length),(4,Vs bS p.stmts.length p.stmts.length),(5,.func (.func 168) #[] #[]),(6,.slice (some ⟨bq,o,none⟩) n cap),(36,.slice Abl bl.length cbl),(37,Vi ((bl.length:Nat):Int)),(38,Vi (k:Int))]⟩∧St ⟨w0,G,Bl []⟩ G2 [.obj bq (.cells cur 3 (0,0)),.row 4 1 (Vs bB p.blocks.length p.blocks.length) p.blocks.length (t.blocks.map Bb),.row 4 1 (Vs bS p.stmts.length p.stmts.length) p.stmts.length (t.stmts.map Bb),.blk b1 102 [.slice As p.stmts.length cs,.slice Ab p.blocks.length cb]] w) rfl (⟨0,_,_,_,_,_,⟨tb,ts,td⟩,_,by omega,hfold,hok1,hqt,hS,hB,hbl,rfl,rfl,hs⟩) fun m E w hI=>?_
  obtain ⟨k,bq,o,n,cap,cur,t,G2,hk,hfo,hok,hq,hS,hB,hbl,rfl,rfl,hs⟩:=hI
  have hS:=hS0.mono hs.le
  have hB:=hB0.mono hs.le
  refine Wt 2 [] hs rfl<|Zy hs (Yc rfl (fun h39=>?_) fun h39=>?_)
  ·
   refine Wp 8 [0] hs rfl<|Zy hs (Eo hbl k underlying33 sizeOf3 rfl rfl rfl oM fun p40 hp40=>?_)
   obtain ⟨i,hie⟩:∃ z,z=bl[k]'oM:=⟨_,rfl⟩
   rw [← hie] at hp40
   refine Zy hs (Yg rfl (hp40)<|Wp 2 [0] hs rfl ?_)
   rw [List.drop_eq_getElem_cons oM,← hie] at hfo
   obtain ⟨s1,sm,t2,hv1,hsm,hnx,hfo2⟩:=fold_go hfo
   obtain ⟨hl1,_,hi1,_⟩:=Lu hv1
   have hts:=hok.s
   have hiS:i<p.stmts.length:=by omega
   have hsi:p.stmts[i]=sm:=by rw [List.getElem?_eq_getElem hiS] at hsm;exact Option.some.inj hsm
   obtain ⟨tb2,ts2,td2⟩:=t
   dsimp only at *
   have hok2:=hok.visit hv1
   refine Wu 6 [] hs rfl<|O_s (Cb (args:=[_,_]) (lb:=[]) (H1:=[_]) hs.f2 rfl rfl func168 rfl kR (mL (l:=ts2) (i:=(i:Int)) hok.s oM) fun v3 G' H' _ hR hG45 hs=>?_)
   obtain ⟨rfl,rfl⟩:=hR
   replace hs:=hs.n rfl
   replace hS:=hS.mono hG45
   replace hB:=hB.mono hG45
   replace hbl:=hbl.mono hG45
   simp only [hv1,Option.getD_some,Option.isSome_some] at hs ⊢
   refine Wp 5 [0] hs rfl<|Bc [0,1,2,3,4,5,6,7,8,9,10,11,12,13,14] hs kR ?_
   replace hs:=hs.drew
   refine Xr [0,1,2] [0,3] hs rfl<|Xt 3 hs rfl (Bv hS i underlying100 sizeOf137 rfl rfl rfl hiS fun p50 c50 hp50 hc50 hR50 =>Xt 4 hs rfl (Jq O137_16.p rfl ?_))
   rw [hsi] at hR50
   refine Xt 5 hs rfl (Yg rfl (hp50 31 _ hR50.at_.1)<|Xr [6,7,8] [0,3] hs rfl<|Xt 9 hs rfl (Bv hS i underlying100 sizeOf137 rfl rfl rfl hiS fun p56 c56 hp56 hc56 hR56 =>Xt 10 hs rfl (Jq O137_17.p rfl ?_)))
   rw [hsi] at hR56
   refine Xt 11 hs rfl (Yg rfl (hp56 32 _ hR56.at_.2)<|Xr [14] [] hs rfl ?_)
   have hle:=hs.le
   refine Xo 12 rfl (Se hs zeroValue3 rfl fun v4 _ hs _=>?_)
   have hsN:=hs.fixRow noM
   clear hs
   obtain ⟨_,hG59,hl59,hs⟩:=hsN
   replace hS:=hS.mono hG59
   replace hB:=hB.mono hG59
   replace hbl:=hbl.mono hG59
   obtain ⟨A59,c59,rfl,_⟩:=id hl59
   have hI59:Bt _ _ [sm.thn,sm.els]:=hl59
   refine Am hs hle hG59 (lSr _)<|Xr [13] [] hs rfl<|Xe (Zk [1,3,4,5,6,36,37,38,59,60,61] rfl ?_)
   have hs:=hs.f3.f1.f3.f3
   refine Zl [1,3,4,5,6,36,37,38,59,60,61] (fun m E w=>∃ (j:Nat) (bq o n cap:Nat) (cur:Array Value) (t:Ii) (G2:Ghost),j≤2∧([sm.thn,sm.els].drop j).foldl Hw (some t)=some t2∧Vz p t∧Nl cur o n cap (t.todo.map Cm)∧fA G2 (.slice As p.stmts.length cs) p.stmts∧LN G2 (.slice Ab p.blocks.length cb) p.blocks∧Cr G2 (.slice Abl bl.length cbl) bl∧Bt G2 (.slice A59 2 c59) [sm.thn,sm.els]∧m=2-j∧E=⟨[],[(1,Vp b1),(3,Vs bB p.blocks.length p.blocks.length),(4,Vs bS p.stmts.length p.stmts.length),(5,.func (.func 168) #[] #[]),(6,.slice (some ⟨bq,o,none⟩) n cap),(36,.slice Abl bl.length cbl),(37,Vi ((bl.length:Nat):Int)),(38,Vi (k:Int)),(59,.slice A59 2 c59),(60,Vi 2),(61,Vi (j:Int))]⟩∧St ⟨w0,G,Bl []⟩ G2 [.obj bq (.cells cur 3 (0,0)),.row 4 1 (Vs bB p.blocks.length p.blocks.length) p.blocks.length (t.blocks.map Bb),.row 4 1 (Vs bS p.stmts.length p.stmts.length) p.stmts.length (t.stmts.map Bb),.blk b1 102 [.slice As p.stmts.length cs,.slice Ab p.blocks.length cb]] w) rfl (⟨0,_,_,_,_,_,⟨tb2,s1,td2⟩,_,by omega,hnx,hok2,hq,hS,hB,hbl,hI59,rfl,rfl,hs⟩) fun m E w hI=>?_
   obtain ⟨j,bq,o,n,cap,cur,t,G2,hj,hfd,hok,hq,hS,hB,hbl,hI59,rfl,rfl,hs⟩:=hI
   have hS:=hS0.mono hs.le
   have hB:=hB0.mono hs.le
   refine Wt 2 [] hs rfl<|Zy hs (Yc rfl (fun h62=>?_) fun h62=>?_)
   ·
    refine Wp 8 [0] hs rfl<|Zy hs (Dl hI59 j underlying33 sizeOf3 rfl rfl rfl Nj fun p63 hp63=>?_)
    obtain ⟨x,hxe⟩:∃ z,z=([sm.thn,sm.els][j]'Nj):=⟨_,rfl⟩
    rw [← hxe] at hp63
    rw [List.drop_eq_getElem_cons Nj,← hxe] at hfd
    obtain ⟨t4,hn4,hfd⟩:=xZ hfd
    refine Zy hs (Yg rfl (hp63)<|Wp 6 [0] hs rfl<|Zy hs (Yc rfl (fun h66=>?_) fun h66=>?_))
    ·
     refine Wp 4 [0] hs rfl<|Zy hs (Ya (s:=((j+1:Nat):Int)) rfl<|Wp 1 [] hs rfl ?_)
     have hs:=hs.f3.f3.f3.f3
     rw [h66,dT] at hn4
     obtain rfl:=Option.some.inj hn4
     refine Zx [1,3,4,5,6,36,37,38,59,60,61] rfl ⟨j+1,_,_,_,_,_,t,_,by omega,hfd,hok,hq,hS,hB,hbl,hI59,rfl,rfl,hs⟩
    refine Wp 3 [0] hs rfl ?_
    obtain ⟨bb,hvb,rfl⟩:=pE h66 hn4
    have hqn:=hq.len
    have hokc:=hok.c
    rw [List.length_map] at hqn
    refine Wu 6 [] hs rfl<|O_s (Cb (args:=[_,_]) (lb:=[]) (H1:=[_]) hs.f1 rfl rfl func168 rfl kR (mL (l:=t.blocks) (i:=x) hok.b oM) fun v5 G' H' _ hR hG70 hs=>?_)
    obtain ⟨rfl,rfl⟩:=hR
    replace hs:=hs.n rfl
    replace hS:=hS.mono hG70
    replace hB:=hB.mono hG70
    replace hbl:=hbl.mono hG70
    replace hI59:=hI59.mono hG70
    simp only [hvb,Option.getD_some,Option.isSome_some] at hs ⊢
    refine Wp 7 [0] hs rfl<|O_s (Se hs zeroValue3 rfl fun v6 _ hs _=>?_)
    obtain ⟨_,hG74,hl74,hs⟩:=hs.fixRow noM
    replace hS:=hS.mono hG74
    replace hB:=hB.mono hG74
    replace hbl:=hbl.mono hG74
    replace hI59:=hI59.mono hG74
    have hs:=hs.f1
    refine O_s (uS hs hq underlying33 Lb rfl rfl rfl hl74 rfl oM oM (fun cur' w' hq' _ _ _ hs=>?_) (fun b' cap' cur' w' hq' hs=>?_))
    ·
     refine Wp 3 [11,1,3,4,5,6,36,37,38,59,60,61] hs rfl<|Zy hs (Ya (s:=((j+1:Nat):Int)) rfl<|Wp 1 [] hs rfl ?_)
     have hs:=hs.f3.f3.f3.f3
     refine Zx [1,3,4,5,6,36,37,38,59,60,61] rfl ⟨j+1,_,_,_,_,_,⟨bb,t.stmts,t.todo++[x.toNat]⟩,_,by omega,hfd,hok.next hn4,jH hq' (Lu hvb).2.1,hS,hB,hbl,hI59,rfl,rfl,hs.weak hs.le (gLr _) (lSa [_,_,_,_] _)⟩
    refine Wp 3 [11,1,3,4,5,6,36,37,38,59,60,61] hs rfl<|Zy hs (Ya (s:=((j+1:Nat):Int)) rfl<|Wp 1 [] hs rfl ?_)
    have hs:=hs.f4.f4.f4.f3
    refine Zx [1,3,4,5,6,36,37,38,59,60,61] rfl ⟨j+1,_,_,_,_,_,⟨bb,t.stmts,t.todo++[x.toNat]⟩,_,by omega,hfd,hok.next hn4,jH hq' (Lu hvb).2.1,hS,hB,hbl,hI59,rfl,rfl,hs.weak hs.le (gLr _) (lSa [_,_,_,_] _)⟩
   refine Wp 4 [0] hs rfl ?_
   refine Zr<|Zy hs (Ya (s:=((k+1:Nat):Int)) rfl<|Wp 1 [] hs rfl ?_)
   have hs:=hs.f3.f3.f3.f3
   obtain rfl:j=2:=by omega
   obtain rfl:=Option.some.inj hfd
   refine Zx [1,3,4,5,6,36,37,38] rfl ⟨k+1,_,_,_,_,_,t,_,by omega,hfo2,hok,hq,hS,hB,hbl,rfl,rfl,hs⟩
  refine Wp 4 [0] hs rfl ?_
  have hs:=hs.f3.f3.f3.f3
  obtain rfl:k=bl.length:=by omega
  rw [List.drop_length] at hfo
  obtain rfl:=Option.some.inj hfo
  refine ⟨_,?_,[(1,_),(3,_),(4,_),(5,_),(6,_)],⟨rfl,rfl,rfl,rfl,rfl,trivial⟩,⟨f1,_,_,_,_,_,t,_,htg1,hok,hq,hS,hB,rfl,rfl,hs⟩⟩
  omega
 refine Wp 3 [0] hs rfl ?_
 have hqn:=hq.len
 obtain ⟨tb,ts,td⟩:=t
 obtain rfl:td=[]:=by cases td with | nil=>rfl | cons b l=>(exfalso;simp at hqn;omega)
 obtain rfl:=sR htg
 have hs:=hs.f1
 obtain ⟨_,hG_hfB0,hfB0,hs⟩:=hs.fixRow noM
 have hs:=hs.f1
 obtain ⟨_,hG_hfS0,hfS0,hs⟩:=hs.fixRow noM
 replace hfB0:=hfB0.mono hG_hfS0
 have hfB:Hq _ (Vs bB p.blocks.length p.blocks.length) tb:=(show Sl _ _ _ _ _ from by rw [hok.b];exact hfB0)
 have hfS:Hq _ (Vs bS p.stmts.length p.stmts.length) ts:=(show Sl _ _ _ _ _ from by rw [hok.s];exact hfS0)
 refine Wu 3 [] hs rfl<|O_s (Sc (pD hfB (by rw [hok.b];omega)) hs rfl fun v7 G' H' _ hR hG79 hs=>?_)
 obtain ⟨rfl,rfl⟩:=hR
 replace hs:=hs.n rfl
 replace hfS:=hfS.mono hG79
 rw [hcb]
 refine Wp 3 [] hs rfl<|Ch 81 rfl rfl (Sc (pD hfS (by rw [hok.s];omega)) hs rfl fun v8 G' H' _ hR hG83 hs=>?_)
 obtain ⟨rfl,rfl⟩:=hR
 replace hs:=hs.n rfl
 rw [hcs]
 refine Wp 4 [0] hs rfl<|Ah<|Zz results146 rfl ?_
 exact ⟨_,[],hs.done,rfl,rfl⟩
def dU (p:By):Bool:=p.stmts.all bP && (decide (iL p=some true) && (decide (1≤p.blocks.length) && (decide (p.blocks.length≤129) && (decide (p.stmts.length≤64) && p.blocks.all fun l=>decide (l.length≤1000)))))
theorem Pf {p:By} (h:dU p=true):(∀ s∈p.stmts,bP s=true)∧iL p=some true∧1≤p.blocks.length∧p.blocks.length≤129∧p.stmts.length≤64∧∀ l∈p.blocks,l.length≤1000:=by
  unfold dU at h
  simp only [Bool.and_eq_true,decide_eq_true_eq,List.all_eq_true] at h
  exact h
theorem Gt.one {G:Ghost} {cs:List Value} {s:Bm} (h:Gt G cs s):(cs.all fun v=>v.oneCell')=true:=by
  obtain ⟨vb,vo,vn,vp,vy,vr,rfl,⟨hb,_⟩,⟨ho,_⟩,⟨hn,_⟩,⟨hp,_⟩,⟨hy,_⟩,⟨hr,_⟩⟩:=h
  obtain ⟨A1,c1,rfl,_⟩:=id hb
  obtain ⟨A2,c2,rfl,_⟩:=id ho
  obtain ⟨A3,c3,rfl,_⟩:=id hn
  obtain ⟨A4,c4,rfl⟩:=Be.slice hp
  obtain ⟨A5,c5,rfl,_⟩:=id hy
  obtain ⟨A6,c6,rfl⟩:=Be.slice hr
  rfl
theorem dval_ok {G:Ghost} {v:Value} {p:By} (hp:mK G v p) (hg:dU p=true) (hT:Tab G) :
  Ai prog 106 [v] G [] fun r _ H'=>H'=[]∧r=Vi 0:=by
 obtain ⟨vs,vb,rfl,hS,hB⟩:=hp
 obtain ⟨As,cs,rfl⟩:=Be.slice hS
 obtain ⟨Ab,cb,rfl⟩:=Be.slice hB
 obtain ⟨hst,htr,hb1,hbn,hsn,hbll⟩:=Pf hg
 refine Ai.of_T [(0,_)] func106 rfl ntmps106 sM rfl fun w0 hs=>?_
 have hS0:=hS
 have hB0:=hB
 have hT0:=hT
 refine Wt 2 [] hs rfl<|O_s (Sb hs rfl fun b1 _ hs=>Wp 8 [0,0,0] hs rfl<|Zy hs (Di rfl rfl rfl oM<|Wp 4 [1,0] hs rfl<|Zg hs rfl (Di rfl rfl rfl oM<|Wp 10 [0,1,0] hs rfl<|Zy hs (Di rfl rfl rfl oM<|Wp 11 [0,0,0,4,1,21,22,23] hs rfl<|Zl [1,21,22,23] (fun m E w=>∃ (k:Nat) (G2:Ghost),k≤p.stmts.length∧m=p.stmts.length-k∧E=⟨[],[(1,Vp b1),(21,.slice As p.stmts.length cs),(22,Vi ((p.stmts.length:Nat):Int)),(23,Vi (k:Int))]⟩∧St ⟨w0,G,Bl []⟩ G2 [.blk b1 102 [.slice As p.stmts.length cs,.slice Ab p.blocks.length cb]] w) rfl (⟨0,_,by omega,rfl,rfl,hs⟩) fun m E w hI=>?_))))
 obtain ⟨k,G2,hk,rfl,rfl,hs⟩:=hI
 have hS:=hS0.mono hs.le
 have hB:=hB0.mono hs.le
 have hT:=hT0.mono hs.le
 refine Wt 2 [] hs rfl<|Zy hs (Yc rfl (fun h24=>?_) fun h24=>?_)
 ·
  refine Wp 8 [0] hs rfl<|Zy hs (Bv hS k underlying100 sizeOf137 rfl rfl rfl oM fun p25 c25 hp25 hc25 hR25 =>Zy hs (Cu (vs:=c25) isAgg137 sizeOf137 rfl hp25 hR25.len<|O_s (Sa hs zeroValue137 rfl fun b4 _ hs=>O_n (Sw hs rfl (vs:=c25) hR25.len rfl hR25.one fun _ hs=>Wp 3 [0] hs rfl<|Zy hs (Yk 0 rfl hR25.len<|O_s (Sc (chk_any hR25 (hst _ (List.getElem_mem _)) hT) hs rfl fun v1 G' H' _ hR hG28 hs=>?_))))))
  obtain ⟨rfl,rfl⟩:=hR
  replace hs:=hs.n rfl
  refine Wp 10 [0,0] hs rfl<|Zy hs (Ya (s:=((k+1:Nat):Int)) rfl<|Wp 1 [] hs rfl ?_)
  have hs:=hs.f1
  refine Zx [1,21,22,23] rfl ⟨k+1,_,by omega,rfl,rfl,hs.weak hs.le (gLr _) (lSa [_] _)⟩
 refine Wp 4 [0] hs rfl<|Wu 4 [0] hs rfl<|O_s (Sc (tree_ok ⟨_,_,rfl,hS,hB⟩ htr hb1 hbn hsn hbll) hs rfl fun v2 G' H' _ hR hG34 hs=>?_)
 obtain ⟨rfl,rfl⟩:=hR
 replace hs:=hs.n rfl
 refine Wp 8 [0,0] hs rfl<|Ah<|Zz results106 rfl ?_
 exact ⟨_,[],hs.done,rfl,rfl⟩
theorem yA {G:Ghost} :
  Ai prog 106 [.agg #[Vn,Vn]] G [] fun r _ H'=>H'=[]∧r=Vi 1:=by
 refine Ai.of_T [(0,_)] func106 rfl ntmps106 sM rfl fun w0 hs =>Wt 2 [] hs rfl<|O_s (Sb hs rfl fun b1 _ hs=>Wp 31 [0,0,0,1,0,0,1,0,0,0] hs rfl<|Ah<|Zz results106 rfl ?_)
 exact ⟨_,[],hs.done,rfl,rfl⟩
def Fm (l:Bool) (s:List Bool):List Value:=.bool l::s.map Bb
theorem Bs {l:Bool} {s:List Bool} (h:s.length=16):(Fm l s).length=17:=by unfold Fm;rw [List.length_cons,List.length_map,h]
theorem Ek {l:Bool} {s:List Bool} (h:s.length=16):((Fm l s).drop 1).take 16=s.map Bb:=by unfold Fm;rw [List.drop_succ_cons,List.drop_zero];exact List.take_of_length_le kZ
theorem Bx (l:List Bool):(l.map Bb).all (·.oneCell')=true:=by
  rw [List.all_eq_true];intro v hv;obtain ⟨n,_,rfl⟩:=List.mem_map.1 hv;rfl
theorem Ci (l:Bool) (s:List Bool):(Fm l s).all (·.oneCell')=true:=by unfold Fm;rw [List.all_cons,Bx];rfl
theorem Sq {l:List Bool} {i:Nat} (h:i<l.length):(l.map Bb)[i]?=some (.bool (l[i]'h)):=Ix h
def Ld (f:Bool→Bool→Bool) (v w:List Bool) (k:Nat):List Bool:=(List.zipWith f v w).take k++v.drop k
theorem Oi {f:Bool→Bool→Bool} {v w:List Bool} {k:Nat} (hv:v.length=16) (hw:w.length=16) (hk:k≤16):(Ld f v w k).length=16:=by unfold Ld;rw [List.length_append,List.length_take,List.length_drop,List.length_zipWith];omega
theorem pF {f:Bool→Bool→Bool} {v w:List Bool} {k:Nat} (hv:v.length=16) (hw:w.length=16) (hk:k<16):(Ld f v w k)[k]'(by rw [Oi hv hw oM];exact hk)=v[k]'oM:=by
  unfold Ld
  rw [List.getElem_append_right (by rw [List.length_take];omega),List.getElem_drop]
  congr 1
  rw [List.length_take,List.length_zipWith];omega
theorem Up {f:Bool→Bool→Bool} {v w:List Bool} {k:Nat} (hv:v.length=16) (hw:w.length=16) (hk:k<16):(Ld f v w k).set k (f (v[k]'oM) (w[k]'oM))=Ld f v w (k+1):=by
  have hz:(List.zipWith f v w).length=16:=by rw [List.length_zipWith];omega
  have ht:((List.zipWith f v w).take k).length=k:=by rw [List.length_take];omega
  unfold Ld
  rw [List.set_append_right _ _ oM,ht,Nat.sub_self,List.drop_eq_getElem_cons (show k<v.length by omega),List.set_cons_zero,List.take_add_one,List.getElem?_eq_getElem oM,List.getElem_zipWith,List.append_assoc]
  rfl
theorem jI {f:Bool→Bool→Bool} {v w:List Bool} (hv:v.length=16) (hw:w.length=16):Ld f v w 16=List.zipWith f v w:=by
  unfold Ld
  rw [List.take_of_length_le (by rw [List.length_zipWith];omega),List.drop_eq_nil_of_le oM,List.append_nil]
theorem Bo {v w:List Bool} (hv:v.length=16) (hw:w.length=16):(Jh v w).length=16:=by unfold Jh;rw [List.length_zipWith];omega
theorem Pg {v w:List Bool} (hv:v.length=16) (hw:w.length=16):(iM v w).length=16:=by unfold iM;rw [List.length_zipWith];omega
theorem Fk {l:Bool} {s:List Bool} (h:s.length=16):Hc (([(0,1),(1,16)]:List (Nat×Nat))[·]?) (Fm false (List.replicate 16 false)) [(0,.bool l),(1,.agg (s.map Bb).toArray)]=some (Fm l s):=by
  have h2:(s.map Bb).length=16:=by rw [List.length_map];exact h
  have hp:=Lm (s.map Bb) [.bool l] (List.replicate 16 (.bool false)) [] (by rw [h2,List.length_replicate])
  simp only [List.append_nil] at hp
  rw [Hc]
  simp only [List.getElem?_cons_zero,show (Value.bool l).cells.toList=[.bool l] from rfl]
  show Hc _ ([.bool l]++List.replicate 16 (.bool false)) _=_
  rw [Hc]
  simp only [List.getElem?_cons_succ,List.getElem?_cons_zero,show (Value.agg (s.map Bb).toArray).cells.toList=s.map Bb from rfl,h2]
  rw [show (Nat.beq 16 16 && Nat.ble (1+16) ([Value.bool l]++List.replicate 16 (Value.bool false)).length)=true from rfl,cond_true,Hc]
  exact congrArg some hp
theorem dV (l:List Int) (s:List Bool) (g:Int→Nat):(l.foldl (fun v x=>v.set (g x) true) s).length=s.length:=by
  induction l generalizing s with
  | nil=>rfl
  | cons a l ih=>rw [List.foldl_cons,ih,List.length_set]
theorem Iy (l m:List Int):(Ih l m).length=16:=by unfold Ih;rw [dV m _ fun n=>12+n.toNat,dV l _ fun x=>x.toNat];rfl
theorem Lv {α β:Type} (f:β→α→β) (z:β) (l:List α) (k:Nat) (h:k<l.length):(l.take (k+1)).foldl f z=f ((l.take k).foldl f z) l[k]:=by
  rw [List.take_add_one,List.getElem?_eq_getElem h,List.foldl_append];rfl
theorem Oj {G:Ghost} {sa sb:List Bool} (hv:sa.length=16) (hw:sb.length=16) :
  Ai prog 111 [(.agg (sa.map Bb).toArray),(.agg (sb.map Bb).toArray)] G [] fun r _ H'=>H'=[]∧r=(.agg ((Jh sa sb).map Bb).toArray):=by
 refine Ai.of_T [(0,_),(1,_)] func111 rfl ntmps111 sM rfl fun w0 hs =>Wt 2 [] hs rfl<|O_s (Dw hs rfl (cs:=_) rfl fun b2 _ hs =>O_s (Dw hs rfl (cs:=_) rfl fun b3 _ hs =>O_s (Bd hs zeroValue186 (cs:=((List.replicate 16 false).map Bb)) rfl fun b4 _ hs =>Wp 6 [0,0] hs rfl ?_)))
 have hs:=hs.f1.f2
 refine Zl [2,3,4,6] (fun m E w=>∃ (k:Nat) (G2:Ghost),k≤16∧m=16-k∧E=⟨[],[(2,Vp b2),(3,Vp b3),(4,Vp b4),(6,Vi (k:Int))]⟩∧St ⟨w0,G,Bl []⟩ G2 [.blk b2 186 ((Ld (· || ·) sa sb k).map Bb),.blk b3 186 (sb.map Bb),.blk b4 186 ((List.replicate 16 false).map Bb)] w) rfl (⟨0,_,by omega,rfl,rfl,hs⟩) fun m E w hI=>?_
 obtain ⟨k,G2,hk,rfl,rfl,hs⟩:=hI
 refine Wt 2 [] hs rfl<|Zy hs (Yc rfl (fun h7=>?_) fun h7=>?_)
 ·
  refine Wp 14 [0,0] hs rfl<|Zy hs (Bq k underlying186 sizeOf4 rfl rfl rfl oM ?_)
  obtain ⟨q12,hq12⟩:∃ q,q=sa[k]'oM:=⟨_,rfl⟩
  refine Zy hs (Db 0 isAgg4 rfl rfl (by rw [Sq (by rw [Oi hv hw oM];omega),pF hv hw oM,← hq12]) ?_)
  cases q12
  ·
   refine Wp 2 [] hs rfl<|Zg hs rfl (Bq k underlying186 sizeOf4 rfl rfl rfl oM ?_)
   obtain ⟨q16,hq16⟩:∃ q,q=sb[k]'oM:=⟨_,rfl⟩
   refine Zg hs rfl (Db 1 isAgg4 rfl rfl (by rw [Sq oM,← hq16]) ?_)
   cases q16
   ·
    refine Wp 1 [] hs rfl<|Zy hs (Bq k underlying186 sizeOf4 rfl rfl rfl oM<|O_n (Hs hs sizeOf4 rfl rfl rfl Z27 (cs':=((Ld (· || ·) sa sb (k+1)).map Bb)) Z22 fun _ hs =>Wp 2 [0] hs rfl<|Zy hs (Ya (s:=((k+1:Nat):Int)) rfl<|Wp 1 [] hs rfl ?_)))
    have hs:=hs.f2.f2.f2
    refine Zx [2,3,4,6] rfl ⟨k+1,_,by omega,rfl,rfl,hs⟩
   refine Wp 1 [] hs rfl<|Zy hs (Bq k underlying186 sizeOf4 rfl rfl rfl oM<|O_n (Hs hs sizeOf4 rfl rfl rfl Z27 (cs':=((Ld (· || ·) sa sb (k+1)).map Bb)) Z22 fun _ hs =>Wp 2 [0] hs rfl<|Zy hs (Ya (s:=((k+1:Nat):Int)) rfl<|Wp 1 [] hs rfl ?_)))
   have hs:=hs.f2.f2.f2
   refine Zx [2,3,4,6] rfl ⟨k+1,_,by omega,rfl,rfl,hs⟩
  refine Wp 5 [] hs rfl<|Zy hs (Bq k underlying186 sizeOf4 rfl rfl rfl oM<|O_n (Hs hs sizeOf4 rfl rfl rfl Z27 (cs':=((Ld (· || ·) sa sb (k+1)).map Bb)) (by rw [← Up hv hw oM,List.map_set,← hq12];rfl) fun _ hs =>Wp 2 [0] hs rfl<|Zy hs (Ya (s:=((k+1:Nat):Int)) rfl<|Wp 1 [] hs rfl ?_)))
  have hs:=hs.f2.f2.f2
  refine Zx [2,3,4,6] rfl ⟨k+1,_,by omega,rfl,rfl,hs⟩
 refine Wp 4 [0] hs rfl<|Wu 2 [] hs rfl<|Zy hs (Yk 0 rfl Z11<|O_n (Sw hs.f2 rfl (vs:=((Ld (· || ·) sa sb k).map Bb)) Z11 Z11 (Bx _) fun _ hs=>Wp 1 [0] hs rfl<|Ah ?_))
 have hr:=hs
 refine Bi (vs:=[_]) results111 rfl ⟨Bk 0 hr isAgg186 sizeOf186 rfl (cs:=((Ld (· || ·) sa sb k).map Bb)) rfl Z11,trivial⟩ ?_
 try dsimp only [tup]
 obtain rfl:k=16:=by omega
 exact ⟨_,[],hs.done,rfl,by rw [jI hv hw];rfl⟩
theorem and_ok {G:Ghost} {sa sb:List Bool} (hv:sa.length=16) (hw:sb.length=16) :
  Ai prog 170 [(.agg (sa.map Bb).toArray),(.agg (sb.map Bb).toArray)] G [] fun r _ H'=>H'=[]∧r=(.agg ((iM sa sb).map Bb).toArray):=by
 refine Ai.of_T [(0,_),(1,_)] func170 rfl ntmps170 sM rfl fun w0 hs =>Wt 2 [] hs rfl<|O_s (Dw hs rfl (cs:=_) rfl fun b2 _ hs =>O_s (Dw hs rfl (cs:=_) rfl fun b3 _ hs =>O_s (Bd hs zeroValue186 (cs:=((List.replicate 16 false).map Bb)) rfl fun b4 _ hs =>Wp 6 [0,0] hs rfl ?_)))
 have hs:=hs.f1.f2
 refine Zl [2,3,4,6] (fun m E w=>∃ (k:Nat) (G2:Ghost),k≤16∧m=16-k∧E=⟨[],[(2,Vp b2),(3,Vp b3),(4,Vp b4),(6,Vi (k:Int))]⟩∧St ⟨w0,G,Bl []⟩ G2 [.blk b2 186 ((Ld (· && ·) sa sb k).map Bb),.blk b3 186 (sb.map Bb),.blk b4 186 ((List.replicate 16 false).map Bb)] w) rfl (⟨0,_,by omega,rfl,rfl,hs⟩) fun m E w hI=>?_
 obtain ⟨k,G2,hk,rfl,rfl,hs⟩:=hI
 refine Wt 2 [] hs rfl<|Zy hs (Yc rfl (fun h7=>?_) fun h7=>?_)
 ·
  refine Wp 14 [0,0] hs rfl<|Zy hs (Bq k underlying186 sizeOf4 rfl rfl rfl oM ?_)
  obtain ⟨q12,hq12⟩:∃ q,q=sa[k]'oM:=⟨_,rfl⟩
  refine Zy hs (Db 0 isAgg4 rfl rfl (by rw [Sq (by rw [Oi hv hw oM];omega),pF hv hw oM,← hq12]) ?_)
  cases q12
  ·
   refine Wp 5 [] hs rfl<|Zy hs (Bq k underlying186 sizeOf4 rfl rfl rfl oM<|O_n (Hs hs sizeOf4 rfl rfl rfl Z27 (cs':=((Ld (· && ·) sa sb (k+1)).map Bb)) (by rw [← Up hv hw oM,List.map_set,← hq12];rfl) fun _ hs =>Wp 2 [0] hs rfl<|Zy hs (Ya (s:=((k+1:Nat):Int)) rfl<|Wp 1 [] hs rfl ?_)))
   have hs:=hs.f2.f2.f2
   refine Zx [2,3,4,6] rfl ⟨k+1,_,by omega,rfl,rfl,hs⟩
  refine Wp 2 [] hs rfl<|Zg hs rfl (Bq k underlying186 sizeOf4 rfl rfl rfl oM ?_)
  obtain ⟨q16,hq16⟩:∃ q,q=sb[k]'oM:=⟨_,rfl⟩
  refine Zg hs rfl (Db 1 isAgg4 rfl rfl (by rw [Sq oM,← hq16]) ?_)
  cases q16
  ·
   refine Wp 1 [] hs rfl<|Zy hs (Bq k underlying186 sizeOf4 rfl rfl rfl oM<|O_n (Hs hs sizeOf4 rfl rfl rfl Z27 (cs':=((Ld (· && ·) sa sb (k+1)).map Bb)) Z22 fun _ hs =>Wp 2 [0] hs rfl<|Zy hs (Ya (s:=((k+1:Nat):Int)) rfl<|Wp 1 [] hs rfl ?_)))
   have hs:=hs.f2.f2.f2
   refine Zx [2,3,4,6] rfl ⟨k+1,_,by omega,rfl,rfl,hs⟩
  refine Wp 1 [] hs rfl<|Zy hs (Bq k underlying186 sizeOf4 rfl rfl rfl oM<|O_n (Hs hs sizeOf4 rfl rfl rfl Z27 (cs':=((Ld (· && ·) sa sb (k+1)).map Bb)) Z22 fun _ hs =>Wp 2 [0] hs rfl<|Zy hs (Ya (s:=((k+1:Nat):Int)) rfl<|Wp 1 [] hs rfl ?_)))
  have hs:=hs.f2.f2.f2
  refine Zx [2,3,4,6] rfl ⟨k+1,_,by omega,rfl,rfl,hs⟩
 refine Wp 4 [0] hs rfl<|Wu 2 [] hs rfl<|Zy hs (Yk 0 rfl Z11<|O_n (Sw hs.f2 rfl (vs:=((Ld (· && ·) sa sb k).map Bb)) Z11 Z11 (Bx _) fun _ hs=>Wp 1 [0] hs rfl<|Ah ?_))
 have hr:=hs
 refine Bi (vs:=[_]) results170 rfl ⟨Bk 0 hr isAgg186 sizeOf186 rfl (cs:=((Ld (· && ·) sa sb k).map Bb)) rfl Z11,trivial⟩ ?_
 try dsimp only [tup]
 obtain rfl:k=16:=by omega
 exact ⟨_,[],hs.done,rfl,by rw [jI hv hw];rfl⟩
theorem Hy {G:Ghost} {v1 v2:Value} {la ma:List Int} (hl:Bt G v1 la) (hm:Bt G v2 ma) (hlb:∀ x∈la,0≤x∧x≤15) (hmb:∀ x∈ma,0≤x∧x≤3) (hln:la.length≤1000) (hmn:ma.length≤1000) :
  Ai prog 109 [v1,v2] G [] fun r _ H'=>H'=[]∧r=(.agg ((Ih la ma).map Bb).toArray):=by
 obtain ⟨A1,c1,rfl,_⟩:=id hl
 obtain ⟨A2,c2,rfl,_⟩:=id hm
 refine Ai.of_T [(0,_),(1,_)] func109 rfl ntmps109 sM rfl fun w0 hs=>?_
 have hl0:=hl
 have hm0:=hm
 refine Wt 2 [] hs rfl<|O_s (Bd hs zeroValue186 (cs:=((List.replicate 16 false).map Bb)) rfl fun b4 _ hs =>Wp 3 [0] hs rfl<|O_s (Bd hs zeroValue186 (cs:=((List.replicate 16 false).map Bb)) rfl fun b5 _ hs =>Wp 8 [0,0] hs rfl ?_))
 have hs:=hs.f1.f1
 refine Zl [1,4,5,10,11,12] (fun m E w=>∃ (k:Nat) (s5:List Bool) (G2:Ghost),k≤la.length∧s5=(la.take k).foldl (fun v x=>v.set x.toNat true) (List.replicate 16 false)∧s5.length=16∧m=la.length-k∧E=⟨[],[(1,(.slice A2 ma.length c2)),(4,Vp b4),(5,Vp b5),(10,(.slice A1 la.length c1)),(11,Vi ((la.length:Nat):Int)),(12,Vi (k:Int))]⟩∧St ⟨w0,G,Bl []⟩ G2 [.blk b5 186 (s5.map Bb),.blk b4 186 ((List.replicate 16 false).map Bb)] w) rfl (⟨0,(List.replicate 16 false),_,by omega,rfl,by simp,rfl,rfl,hs⟩) fun m E w hI=>?_
 obtain ⟨k,s5,G2,hk,hfo,hs5,rfl,rfl,hs⟩:=hI
 have hl:=hl0.mono hs.le
 have hm:=hm0.mono hs.le
 refine Wt 2 [] hs rfl<|Zy hs (Yc rfl (fun h13=>?_) fun h13=>?_)
 ·
  refine Wp 8 [0] hs rfl<|Zy hs (Dl hl k underlying33 sizeOf3 rfl rfl rfl oM fun p14 hp14=>?_)
  obtain ⟨x,hxe⟩:∃ z,z=la[k]'oM:=⟨_,rfl⟩
  rw [← hxe] at hp14
  have hxb:=hlb x Z33
  refine Zy hs (Yg rfl (hp14)<|Wp 4 [0] hs rfl<|Zy hs (Bq x.toNat underlying186 sizeOf4 rfl rfl oM oM<|O_n (Hs hs sizeOf4 rfl rfl rfl (by rw [List.length_map,hs5];omega) (cs':=((s5.set x.toNat true).map Bb)) (by rw [List.map_set];rfl) fun _ hs =>Wp 2 [0] hs rfl<|Zy hs (Ya (s:=((k+1:Nat):Int)) rfl<|Wp 1 [] hs rfl ?_))))
  have hs:=hs.f1.f1
  refine Zx [1,4,5,10,11,12] rfl ⟨k+1,s5.set x.toNat true,_,by omega,by rw [Lv _ _ _ _ oM,← hfo,← hxe],by rw [List.length_set];exact hs5,rfl,rfl,hs⟩
 refine Wp 4 [0] hs rfl<|Wu 7 [0] hs rfl ?_
 have hs:=hs.f1.f1
 obtain rfl:k=la.length:=by omega
 rw [List.take_length] at hfo
 refine Zl [4,5,19,20,21] (fun m E w=>∃ (k:Nat) (s5:List Bool) (G2:Ghost),k≤ma.length∧s5=(ma.take k).foldl (fun v n=>v.set (12+n.toNat) true) (la.foldl (fun v x=>v.set x.toNat true) (List.replicate 16 false))∧s5.length=16∧m=ma.length-k∧E=⟨[],[(4,Vp b4),(5,Vp b5),(19,(.slice A2 ma.length c2)),(20,Vi ((ma.length:Nat):Int)),(21,Vi (k:Int))]⟩∧St ⟨w0,G,Bl []⟩ G2 [.blk b5 186 (s5.map Bb),.blk b4 186 ((List.replicate 16 false).map Bb)] w) rfl (⟨0,s5,_,by omega,by rw [hfo];rfl,hs5,rfl,rfl,hs⟩) fun m E w hI=>?_
 obtain ⟨k,s5,G2,hk,hfo,hs5,rfl,rfl,hs⟩:=hI
 have hl:=hl0.mono hs.le
 have hm:=hm0.mono hs.le
 refine Wt 2 [] hs rfl<|Zy hs (Yc rfl (fun h22=>?_) fun h22=>?_)
 ·
  refine Wp 8 [0] hs rfl<|Zy hs (Dl hm k underlying33 sizeOf3 rfl rfl rfl oM fun p23 hp23=>?_)
  obtain ⟨x,hxe⟩:∃ z,z=ma[k]'oM:=⟨_,rfl⟩
  rw [← hxe] at hp23
  have hxb:=hmb x Z33
  refine Zy hs (Yg rfl (hp23)<|Wp 4 [0] hs rfl<|Zy hs (Ya (s:=12+x) rfl<|Zy hs (Bq (12+x.toNat) underlying186 sizeOf4 rfl rfl oM oM<|O_n (Hs hs sizeOf4 rfl rfl rfl (by rw [List.length_map,hs5];omega) (cs':=((s5.set (12+x.toNat) true).map Bb)) (by rw [List.map_set];rfl) fun _ hs =>Wp 2 [0] hs rfl<|Zy hs (Ya (s:=((k+1:Nat):Int)) rfl<|Wp 1 [] hs rfl ?_)))))
  have hs:=hs.f1.f1
  refine Zx [4,5,19,20,21] rfl ⟨k+1,s5.set (12+x.toNat) true,_,by omega,by rw [Lv _ _ _ _ oM,← hfo,← hxe],by rw [List.length_set];exact hs5,rfl,rfl,hs⟩
 refine Wp 4 [0] hs rfl<|Wu 2 [] hs rfl<|Zy hs (Yk 0 rfl (by rw [List.length_map];exact hs5)<|O_n (Sw hs.f1 rfl Z13 Z13 (Bx _) fun _ hs=>Wp 1 [0] hs rfl<|Ah<|Zz results109 (Rb 0 hs rfl Z13) ?_))
 obtain rfl:k=ma.length:=by omega
 rw [List.take_length] at hfo
 exact ⟨_,[],hs.done,rfl,by rw [hfo];rfl⟩
theorem Jt {G:Ghost} {la lb:Bool} {sa sb:List Bool} (hv:sa.length=16) (hw:sb.length=16) :
  Ai prog 149 [(.agg (Fm la sa).toArray),(.agg (Fm lb sb).toArray)] G [] fun r _ H'=>H'=[]∧r=(.agg (Fm (Og ⟨la,sa⟩ ⟨lb,sb⟩).live (Og ⟨la,sa⟩ ⟨lb,sb⟩).set).toArray):=by
 refine Ai.of_T [(0,_),(1,_)] func149 rfl ntmps149 sM rfl fun w0 hs =>Wt 2 [] hs rfl<|O_s (Dw hs rfl (cs:=_) rfl fun b2 _ hs =>O_s (Dw hs rfl (cs:=_) rfl fun b3 _ hs =>O_s (Bd hs zeroValue227 (cs:=(Fm false (List.replicate 16 false))) rfl fun b4 _ hs =>Wp 6 [0,0] hs rfl ?_)))
 obtain ⟨q7,hq7⟩:∃ q,q=la:=⟨_,rfl⟩
 refine Zy hs (Db 2 isAgg4 rfl rfl (show (Fm la sa)[0]?=some (.bool q7) from by rw [hq7];rfl) ?_)
 cases q7
 ·
  refine Wp 6 [0] hs rfl<|Zy hs (Yk 1 rfl (Bs aS)<|O_n (Sw hs rfl Z6 Z6 (Ci _ _) fun _ hs=>Wp 1 [0] hs rfl<|Ah<|Zz results149 (Rb 0 hs rfl Z6) ?_))
  exact ⟨_,[],hs.done,rfl,by rw [← hq7];rfl⟩
 refine Wp 7 [0,0] hs rfl ?_
 obtain ⟨q12,hq12⟩:∃ q,q=lb:=⟨_,rfl⟩
 refine Zy hs (Db 1 isAgg4 rfl rfl (show (Fm lb sb)[0]?=some (.bool q12) from by rw [hq12];rfl) ?_)
 cases q12
 ·
  refine Wp 6 [0] hs rfl<|Zy hs (Yk 2 rfl (Bs aS)<|O_n (Sw hs rfl Z6 Z6 (Ci _ _) fun _ hs=>Wp 1 [0] hs rfl<|Ah<|Zz results149 (Rb 0 hs rfl Z6) ?_))
  exact ⟨_,[],hs.done,rfl,by rw [← hq7,← hq12];rfl⟩
 refine Wp 8 [0,1] hs rfl<|Zy hs (Gl 2 isAgg186 sizeOf186 rfl rfl (vs:=(sa.map Bb)) (Ek aS) ((List.length_map _).trans aS)<|Wp 1 [1] hs rfl<|Zy hs (Gl 1 isAgg186 sizeOf186 rfl rfl (vs:=(sb.map Bb)) (Ek aS) ((List.length_map _).trans aS)<|O_s (Sc (and_ok hv hw) hs rfl fun v1 G' H' _ hR hG19 hs=>?_)))
 obtain ⟨rfl,rfl⟩:=hR
 replace hs:=hs.n rfl
 refine Zy hs (Ba (zs:=Fm false (List.replicate 16 false)) zeroValue227 kR (pl:=[(0,1),(1,16)]) kR rfl (cs:=Fm true (iM sa sb)) (Fk (Pg hv hw))<|O_n (Sw hs rfl Z6 Z6 (Ci _ _) fun _ hs=>Wp 1 [0] hs rfl<|Ah<|Zz results149 (Rb 0 hs rfl Z6) ?_))
 exact ⟨_,[],hs.done,rfl,by rw [← hq7,← hq12];rfl⟩
theorem rds1_ok {G:Ghost} {x y:Int} (hx:Ha x=true) :
  Ai prog 112 [.agg #[Vi 1,Vi x,Vi y,Vi 0,Vi 0,Vi 0,Vi 0,Vn,Vf,Vi 0,Vn,Vn,Af 0,Af 0,Af 0,Af 0,Vi 0,Vi 0,Vi 0,Vi 0,Vf,Vn,Vn,Vi 0,Vf,Vi 0,Vi 0,Vi 0,Vi 0,Vn,.string ⟨[].toArray⟩,Vi (-1),Vi (-1)]] G [] fun r _ H'=>H'=[]∧r=(.agg ((Ih [x] []).map Bb).toArray):=by
 refine Ai.of_T [(0,_)] func112 rfl ntmps112 sM rfl fun w0 hs =>Wt 2 [] hs rfl<|O_s (Sb hs rfl fun b1 _ hs=>O_s (Bd hs zeroValue186 (cs:=((List.replicate 16 false).map Bb)) rfl fun b2 _ hs =>Wp 55 [0,0,1,0,0,0,0,0,0,0,0,1,1] hs rfl<|O_s (Se hs zeroValue3 rfl fun v1 _ hs _=>?_)))
 obtain ⟨_,hG48,hl48,hs⟩:=hs.fixRow noM
 refine O_s (Sc (Hy (la:=[x]) (ma:=[]) hl48 (show Bt _ (Vn) [] from Sl.nil _ _) Z8 nI sM sM) hs rfl fun v2 G' H' _ hR hG49 hs=>?_)
 obtain ⟨rfl,rfl⟩:=hR
 replace hs:=hs.n rfl
 refine O_n (Sw hs rfl Z5 Z5 (Bx _) fun _ hs=>Wp 1 [1,2] hs rfl<|Ah<|Zz results112 (Rb 0 hs rfl Z5) ?_)
 exact ⟨_,[],hs.done,rfl,rfl⟩
theorem yB {G:Ghost} {x y:Int} (hy:0≤y∧y≤11) :
  Ai prog 110 [.agg #[Vi 1,Vi x,Vi y,Vi 0,Vi 0,Vi 0,Vi 0,Vn,Vf,Vi 0,Vn,Vn,Af 0,Af 0,Af 0,Af 0,Vi 0,Vi 0,Vi 0,Vi 0,Vf,Vn,Vn,Vi 0,Vf,Vi 0,Vi 0,Vi 0,Vi 0,Vn,.string ⟨[].toArray⟩,Vi (-1),Vi (-1)]] G [] fun r _ H'=>H'=[]∧r=.tuple #[(.agg (((List.replicate 16 false).set y.toNat true).map Bb).toArray),Vf]:=by
 refine Ai.of_T [(0,_)] func110 rfl ntmps110 sM rfl fun w0 hs =>Wt 2 [] hs rfl<|O_s (Sb hs rfl fun b1 _ hs=>O_s (Bd hs zeroValue186 (cs:=((List.replicate 16 false).map Bb)) rfl fun b2 _ hs =>Wp 62 [0,0,1,0,0,0,0,0,0,2,1] hs rfl<|Zy hs (Bq y.toNat underlying186 sizeOf4 rfl rfl oM oM<|O_n (Hs hs sizeOf4 rfl rfl rfl Z34 (cs':=(((List.replicate 16 false).set y.toNat true).map Bb)) Z38 fun _ hs =>Wp 2 [0] hs rfl ?_))))
 have hsW:=hs
 refine Wu 1 [] hs rfl<|Bc [0,1,2,3,4,5,6,7,8,9,10,11,12,13] hsW kR ?_
 replace hs:=hs.drew
 replace hsW:=hsW.drew
 refine Xt 0 hsW rfl (Yk 0 rfl uA<|Xr [1,2,3,4,5,6,7,8,9,10,11,12] [0,1] hsW rfl ?_)
 have hle:=hs.le
 refine Xm 13 rfl (Sw hsW rfl Z5 Z5 (Bx _) fun _ hs=>?_)
 have hsW:=hs
 refine Am hsW hle (gLr _) (lSr _)<|Xa 14 rfl (S_y hsW rfl (Yq rfl<|Xe (Zk [2,3] rfl<|Ah ?_)))
 have hr:=hs
 refine Bi (vs:=[_,_]) results110 rfl ⟨Bk 0 hr isAgg186 sizeOf186 rfl (cs:=_) rfl Z5,rfl,trivial⟩ ?_
 try dsimp only [tup]
 exact ⟨_,[],hs.done,rfl,rfl⟩
theorem rds3_ok {G:Ghost} {x y z els:Int} {Ab:Option Addr} {cb:Nat} {b:List UInt8} {la:Bool} (hx:Ha x=true) :
  Ai prog 112 [.agg #[Vi 3,Vi x,Vi y,Vi z,Vi 0,Vi 0,Vi 0,.slice Ab b.length cb,.bool la,Vi 0,Vn,Vn,Af 0,Af 0,Af 0,Af 0,Vi 0,Vi 0,Vi 0,Vi 0,Vf,Vn,Vn,Vi 0,Vf,Vi 0,Vi 0,Vi 0,Vi 0,Vn,.string ⟨[].toArray⟩,Vi (-1),Vi els]] G [] fun r _ H'=>H'=[]∧r=(.agg ((Ih [x] []).map Bb).toArray):=by
 refine Ai.of_T [(0,_)] func112 rfl ntmps112 sM rfl fun w0 hs =>Wt 2 [] hs rfl<|O_s (Sb hs rfl fun b1 _ hs=>O_s (Bd hs zeroValue186 (cs:=((List.replicate 16 false).map Bb)) rfl fun b2 _ hs =>Wp 55 [0,0,1,0,0,0,0,0,0,0,0,1,1] hs rfl<|O_s (Se hs zeroValue3 rfl fun v1 _ hs _=>?_)))
 obtain ⟨_,hG48,hl48,hs⟩:=hs.fixRow noM
 refine O_s (Sc (Hy (la:=[x]) (ma:=[]) hl48 (show Bt _ (Vn) [] from Sl.nil _ _) Z8 nI sM sM) hs rfl fun v2 G' H' _ hR hG49 hs=>?_)
 obtain ⟨rfl,rfl⟩:=hR
 replace hs:=hs.n rfl
 refine O_n (Sw hs rfl Z5 Z5 (Bx _) fun _ hs=>Wp 1 [1,2] hs rfl<|Ah<|Zz results112 (Rb 0 hs rfl Z5) ?_)
 exact ⟨_,[],hs.done,rfl,rfl⟩
theorem yC {G:Ghost} {x y z els:Int} {Ab:Option Addr} {cb:Nat} {b:List UInt8} {la:Bool} (hy:0≤y∧y≤11) (hz:0≤z∧z≤11) :
  Ai prog 110 [.agg #[Vi 3,Vi x,Vi y,Vi z,Vi 0,Vi 0,Vi 0,.slice Ab b.length cb,.bool la,Vi 0,Vn,Vn,Af 0,Af 0,Af 0,Af 0,Vi 0,Vi 0,Vi 0,Vi 0,Vf,Vn,Vn,Vi 0,Vf,Vi 0,Vi 0,Vi 0,Vi 0,Vn,.string ⟨[].toArray⟩,Vi (-1),Vi els]] G [] fun r _ H'=>H'=[]∧r=.tuple #[(.agg ((((List.replicate 16 false).set z.toNat true).set y.toNat true).map Bb).toArray),Vt]:=by
 refine Ai.of_T [(0,_)] func110 rfl ntmps110 sM rfl fun w0 hs =>Wt 2 [] hs rfl<|O_s (Sb hs rfl fun b1 _ hs=>O_s (Bd hs zeroValue186 (cs:=((List.replicate 16 false).map Bb)) rfl fun b2 _ hs =>Wp 49 [0,0,1,0,0,0,0,3,1] hs rfl<|Zy hs (Bq z.toNat underlying186 sizeOf4 rfl rfl oM oM<|O_n (Hs hs sizeOf4 rfl rfl rfl Z34 (cs':=(((List.replicate 16 false).set z.toNat true).map Bb)) Z38 fun _ hs =>Wp 8 [0,0,2,1] hs rfl<|Zy hs (Bq y.toNat underlying186 sizeOf4 rfl rfl oM oM<|O_n (Hs hs sizeOf4 rfl rfl rfl Z34 (cs':=((((List.replicate 16 false).set z.toNat true).set y.toNat true).map Bb)) Z38 fun _ hs =>Wp 2 [0] hs rfl ?_))))))
 have hsW:=hs
 refine Wu 1 [] hs rfl<|Bc [0,1,2,3,4,5,6,7,8,9,10,11,12,13] hsW kR ?_
 replace hs:=hs.drew
 replace hsW:=hsW.drew
 refine Xt 0 hsW rfl (Yk 0 rfl uA<|Xr [1,2,3,4,5,6,7,8,9,10,11,12] [] hsW rfl ?_)
 have hle:=hs.le
 refine Xm 13 rfl (Sw hsW rfl Z5 Z5 (Bx _) fun _ hs=>?_)
 have hsW:=hs
 refine Am hsW hle (gLr _) (lSr _)<|Xa 14 rfl (S_y hsW rfl (Yq rfl<|Xe (Zk [2,3] rfl<|Ah ?_)))
 have hr:=hs
 refine Bi (vs:=[_,_]) results110 rfl ⟨Bk 0 hr isAgg186 sizeOf186 rfl (cs:=_) rfl Z5,rfl,trivial⟩ ?_
 try dsimp only [tup]
 exact ⟨_,[],hs.done,rfl,rfl⟩
theorem rds4_ok {G:Ghost} {x y i j:Int} (hx:Ha x=true) :
  Ai prog 112 [.agg #[Vi 4,Vi x,Vi y,Vi 0,Vi 0,Vi i,Vi j,Vn,Vf,Vi 0,Vn,Vn,Af 0,Af 0,Af 0,Af 0,Vi 0,Vi 0,Vi 0,Vi 0,Vf,Vn,Vn,Vi 0,Vf,Vi 0,Vi 0,Vi 0,Vi 0,Vn,.string ⟨[].toArray⟩,Vi (-1),Vi (-1)]] G [] fun r _ H'=>H'=[]∧r=(.agg ((Ih [x] []).map Bb).toArray):=by
 refine Ai.of_T [(0,_)] func112 rfl ntmps112 sM rfl fun w0 hs =>Wt 2 [] hs rfl<|O_s (Sb hs rfl fun b1 _ hs=>O_s (Bd hs zeroValue186 (cs:=((List.replicate 16 false).map Bb)) rfl fun b2 _ hs =>Wp 55 [0,0,1,0,0,0,0,0,0,0,0,1,1] hs rfl<|O_s (Se hs zeroValue3 rfl fun v1 _ hs _=>?_)))
 obtain ⟨_,hG48,hl48,hs⟩:=hs.fixRow noM
 refine O_s (Sc (Hy (la:=[x]) (ma:=[]) hl48 (show Bt _ (Vn) [] from Sl.nil _ _) Z8 nI sM sM) hs rfl fun v2 G' H' _ hR hG49 hs=>?_)
 obtain ⟨rfl,rfl⟩:=hR
 replace hs:=hs.n rfl
 refine O_n (Sw hs rfl Z5 Z5 (Bx _) fun _ hs=>Wp 1 [1,2] hs rfl<|Ah<|Zz results112 (Rb 0 hs rfl Z5) ?_)
 exact ⟨_,[],hs.done,rfl,rfl⟩
theorem yD {G:Ghost} {x y i j:Int} (hy:0≤y∧y≤11) :
  Ai prog 110 [.agg #[Vi 4,Vi x,Vi y,Vi 0,Vi 0,Vi i,Vi j,Vn,Vf,Vi 0,Vn,Vn,Af 0,Af 0,Af 0,Af 0,Vi 0,Vi 0,Vi 0,Vi 0,Vf,Vn,Vn,Vi 0,Vf,Vi 0,Vi 0,Vi 0,Vi 0,Vn,.string ⟨[].toArray⟩,Vi (-1),Vi (-1)]] G [] fun r _ H'=>H'=[]∧r=.tuple #[(.agg (((List.replicate 16 false).set y.toNat true).map Bb).toArray),Vf]:=by
 refine Ai.of_T [(0,_)] func110 rfl ntmps110 sM rfl fun w0 hs =>Wt 2 [] hs rfl<|O_s (Sb hs rfl fun b1 _ hs=>O_s (Bd hs zeroValue186 (cs:=((List.replicate 16 false).map Bb)) rfl fun b2 _ hs =>Wp 74 [0,0,1,0,0,0,0,0,0,0,5,1,2,3,5,13,2,1] hs rfl<|Zy hs (Bq y.toNat underlying186 sizeOf4 rfl rfl oM oM<|O_n (Hs hs sizeOf4 rfl rfl rfl Z34 (cs':=(((List.replicate 16 false).set y.toNat true).map Bb)) Z38 fun _ hs =>Wp 2 [0] hs rfl ?_))))
 have hsW:=hs
 refine Wu 1 [] hs rfl<|Bc [0,1,2,3,4,5,6,7,8,9,10,11,12,13] hsW kR ?_
 replace hs:=hs.drew
 replace hsW:=hsW.drew
 refine Xt 0 hsW rfl (Yk 0 rfl uA<|Xr [1,2,3,4,5,6,7,8,9,10,11,12] [0,1] hsW rfl ?_)
 have hle:=hs.le
 refine Xm 13 rfl (Sw hsW rfl Z5 Z5 (Bx _) fun _ hs=>?_)
 have hsW:=hs
 refine Am hsW hle (gLr _) (lSr _)<|Xa 14 rfl (S_y hsW rfl (Yq rfl<|Xe (Zk [2,3] rfl<|Ah ?_)))
 have hr:=hs
 refine Bi (vs:=[_,_]) results110 rfl ⟨Bk 0 hr isAgg186 sizeOf186 rfl (cs:=_) rfl Z5,rfl,trivial⟩ ?_
 try dsimp only [tup]
 exact ⟨_,[],hs.done,rfl,rfl⟩
theorem rds6_ok {G:Ghost} {x y els:Int} {A1 A2:Option Addr} {k1 k2:Nat} {o:kO} (hx:Ha x=true) :
  Ai prog 112 [.agg #[Vi 6,Vi x,Vi y,Vi 0,Vi 0,Vi 0,Vi 0,Vn,Vf,Vi o.kind,.slice A1 o.old.length k1,.slice A2 o.new.length k2,Af 0,Af 0,Af 0,Af 0,Vi 0,Vi 0,Vi 0,Vi 0,Vf,Vn,Vn,Vi 0,Vf,Vi 0,Vi 0,Vi 0,Vi 0,Vn,.string ⟨[].toArray⟩,Vi (-1),Vi els]] G [] fun r _ H'=>H'=[]∧r=(.agg ((Ih [x] []).map Bb).toArray):=by
 refine Ai.of_T [(0,_)] func112 rfl ntmps112 sM rfl fun w0 hs =>Wt 2 [] hs rfl<|O_s (Sb hs rfl fun b1 _ hs=>O_s (Bd hs zeroValue186 (cs:=((List.replicate 16 false).map Bb)) rfl fun b2 _ hs =>Wp 55 [0,0,1,0,0,0,0,0,0,0,0,1,1] hs rfl<|O_s (Se hs zeroValue3 rfl fun v1 _ hs _=>?_)))
 obtain ⟨_,hG48,hl48,hs⟩:=hs.fixRow noM
 refine O_s (Sc (Hy (la:=[x]) (ma:=[]) hl48 (show Bt _ (Vn) [] from Sl.nil _ _) Z8 nI sM sM) hs rfl fun v2 G' H' _ hR hG49 hs=>?_)
 obtain ⟨rfl,rfl⟩:=hR
 replace hs:=hs.n rfl
 refine O_n (Sw hs rfl Z5 Z5 (Bx _) fun _ hs=>Wp 1 [1,2] hs rfl<|Ah<|Zz results112 (Rb 0 hs rfl Z5) ?_)
 exact ⟨_,[],hs.done,rfl,rfl⟩
theorem yE {G:Ghost} {x y els:Int} {A1 A2:Option Addr} {k1 k2:Nat} {o:kO} (hy:0≤y∧y≤11) :
  Ai prog 110 [.agg #[Vi 6,Vi x,Vi y,Vi 0,Vi 0,Vi 0,Vi 0,Vn,Vf,Vi o.kind,.slice A1 o.old.length k1,.slice A2 o.new.length k2,Af 0,Af 0,Af 0,Af 0,Vi 0,Vi 0,Vi 0,Vi 0,Vf,Vn,Vn,Vi 0,Vf,Vi 0,Vi 0,Vi 0,Vi 0,Vn,.string ⟨[].toArray⟩,Vi (-1),Vi els]] G [] fun r _ H'=>H'=[]∧r=.tuple #[(.agg (((List.replicate 16 false).set y.toNat true).map Bb).toArray),.bool (decide (o.kind=3))]:=by
 refine Ai.of_T [(0,_)] func110 rfl ntmps110 sM rfl fun w0 hs =>Wt 2 [] hs rfl<|O_s (Sb hs rfl fun b1 _ hs=>O_s (Bd hs zeroValue186 (cs:=((List.replicate 16 false).map Bb)) rfl fun b2 _ hs =>Wp 80 [0,0,1,0,0,0,0,0,0,0,5,1,2,3,5,13,0,2,1] hs rfl<|Zy hs (Bq y.toNat underlying186 sizeOf4 rfl rfl oM oM<|O_n (Hs hs sizeOf4 rfl rfl rfl Z34 (cs':=(((List.replicate 16 false).set y.toNat true).map Bb)) Z38 fun _ hs =>Wp 2 [0] hs rfl ?_))))
 have hsW:=hs
 refine Wu 1 [] hs rfl<|Bc [0,1,2,3,4,5,6,7,8,9,10,11,12,13] hsW kR ?_
 replace hs:=hs.drew
 replace hsW:=hsW.drew
 refine Xt 0 hsW rfl (Yk 0 rfl uA<|Xr [1,2,3,4,5,6,7,8,9] [0,1,9,9,1] hsW rfl<|Xt 10 hsW rfl (Nr rfl rfl rfl (fun h42=>?_) (fun h42=>?_)))
 ·
  dsimp only [Il] at h42
  refine Xr [11,12] [] hsW rfl ?_
  have hle:=hs.le
  refine Xm 13 rfl (Sw hsW rfl Z5 Z5 (Bx _) fun _ hs=>?_)
  have hsW:=hs
  refine Am hsW hle (gLr _) (lSr _)<|Xa 14 rfl (S_y hsW rfl (Yq rfl<|Xe (Zk [2,3] rfl<|Ah ?_)))
  have hr:=hs
  refine Bi (vs:=[_,_]) results110 rfl ⟨Bk 0 hr isAgg186 sizeOf186 rfl (cs:=_) rfl Z5,rfl,trivial⟩ ?_
  try dsimp only [tup]
  exact ⟨_,[],hs.done,rfl,by rw [decide_eq_true oM]⟩
 dsimp only [Il] at h42
 refine Xr [11,12] [] hsW rfl ?_
 have hle:=hs.le
 refine Xm 13 rfl (Sw hsW rfl Z5 Z5 (Bx _) fun _ hs=>?_)
 have hsW:=hs
 refine Am hsW hle (gLr _) (lSr _)<|Xa 14 rfl (S_y hsW rfl (Yq rfl<|Xe (Zk [2,3] rfl<|Ah ?_)))
 have hr:=hs
 refine Bi (vs:=[_,_]) results110 rfl ⟨Bk 0 hr isAgg186 sizeOf186 rfl (cs:=_) rfl Z5,rfl,trivial⟩ ?_
 try dsimp only [tup]
 exact ⟨_,[],hs.done,rfl,by rw [decide_eq_false oM]⟩
theorem rds7_ok {G:Ghost} {x y:Int} {c0 c1 c2 c3:Nat} (hx:Ha x=true) :
  Ai prog 112 [.agg #[Vi 7,Vi x,Vi y,Vi 0,Vi 0,Vi 0,Vi 0,Vn,Vf,Vi 0,Vn,Vn,Af c0,Af c1,Af c2,Af c3,Vi 0,Vi 0,Vi 0,Vi 0,Vf,Vn,Vn,Vi 0,Vf,Vi 0,Vi 0,Vi 0,Vi 0,Vn,.string ⟨[].toArray⟩,Vi (-1),Vi (-1)]] G [] fun r _ H'=>H'=[]∧r=(.agg ((Ih [x] []).map Bb).toArray):=by
 refine Ai.of_T [(0,_)] func112 rfl ntmps112 sM rfl fun w0 hs =>Wt 2 [] hs rfl<|O_s (Sb hs rfl fun b1 _ hs=>O_s (Bd hs zeroValue186 (cs:=((List.replicate 16 false).map Bb)) rfl fun b2 _ hs =>Wp 55 [0,0,1,0,0,0,0,0,0,0,0,1,1] hs rfl<|O_s (Se hs zeroValue3 rfl fun v1 _ hs _=>?_)))
 obtain ⟨_,hG48,hl48,hs⟩:=hs.fixRow noM
 refine O_s (Sc (Hy (la:=[x]) (ma:=[]) hl48 (show Bt _ (Vn) [] from Sl.nil _ _) Z8 nI sM sM) hs rfl fun v2 G' H' _ hR hG49 hs=>?_)
 obtain ⟨rfl,rfl⟩:=hR
 replace hs:=hs.n rfl
 refine O_n (Sw hs rfl Z5 Z5 (Bx _) fun _ hs=>Wp 1 [1,2] hs rfl<|Ah<|Zz results112 (Rb 0 hs rfl Z5) ?_)
 exact ⟨_,[],hs.done,rfl,rfl⟩
theorem yF {G:Ghost} {x y:Int} {c0 c1 c2 c3:Nat} (hy:0≤y∧y≤11) :
  Ai prog 110 [.agg #[Vi 7,Vi x,Vi y,Vi 0,Vi 0,Vi 0,Vi 0,Vn,Vf,Vi 0,Vn,Vn,Af c0,Af c1,Af c2,Af c3,Vi 0,Vi 0,Vi 0,Vi 0,Vf,Vn,Vn,Vi 0,Vf,Vi 0,Vi 0,Vi 0,Vi 0,Vn,.string ⟨[].toArray⟩,Vi (-1),Vi (-1)]] G [] fun r _ H'=>H'=[]∧r=.tuple #[(.agg (((List.replicate 16 false).set y.toNat true).map Bb).toArray),Vf]:=by
 refine Ai.of_T [(0,_)] func110 rfl ntmps110 sM rfl fun w0 hs =>Wt 2 [] hs rfl<|O_s (Sb hs rfl fun b1 _ hs=>O_s (Bd hs zeroValue186 (cs:=((List.replicate 16 false).map Bb)) rfl fun b2 _ hs =>Wp 83 [0,0,1,0,0,0,0,0,0,0,5,1,2,3,5,13,0,0,2,1] hs rfl<|Zy hs (Bq y.toNat underlying186 sizeOf4 rfl rfl oM oM<|O_n (Hs hs sizeOf4 rfl rfl rfl Z34 (cs':=(((List.replicate 16 false).set y.toNat true).map Bb)) Z38 fun _ hs =>Wp 2 [0] hs rfl ?_))))
 have hsW:=hs
 refine Wu 1 [] hs rfl<|Bc [0,1,2,3,4,5,6,7,8,9,10,11,12,13] hsW kR ?_
 replace hs:=hs.drew
 replace hsW:=hsW.drew
 refine Xt 0 hsW rfl (Yk 0 rfl uA<|Xr [1,2,3,4,5,6,7,8,9,10,11,12] [0,1] hsW rfl ?_)
 have hle:=hs.le
 refine Xm 13 rfl (Sw hsW rfl Z5 Z5 (Bx _) fun _ hs=>?_)
 have hsW:=hs
 refine Am hsW hle (gLr _) (lSr _)<|Xa 14 rfl (S_y hsW rfl (Yq rfl<|Xe (Zk [2,3] rfl<|Ah ?_)))
 have hr:=hs
 refine Bi (vs:=[_,_]) results110 rfl ⟨Bk 0 hr isAgg186 sizeOf186 rfl (cs:=_) rfl Z5,rfl,trivial⟩ ?_
 try dsimp only [tup]
 exact ⟨_,[],hs.done,rfl,rfl⟩
theorem rds8_ok {G:Ghost} {x n els:Int} {q:Of} (hx:Ha x=true) :
  Ai prog 112 [.agg #[Vi 8,Vi x,Vi 0,Vi 0,Vi n,Vi 0,Vi 0,Vn,Vf,Vi 0,Vn,Vn,Af 0,Af 0,Af 0,Af 0,Vi q.base,Vi q.digits,Vi q.top,Vi q.over,.bool q.zeros,Vn,Vn,Vi 0,Vf,Vi 0,Vi 0,Vi 0,Vi 0,Vn,.string ⟨[].toArray⟩,Vi (-1),Vi els]] G [] fun r _ H'=>H'=[]∧r=(.agg ((Ih [x] []).map Bb).toArray):=by
 refine Ai.of_T [(0,_)] func112 rfl ntmps112 sM rfl fun w0 hs =>Wt 2 [] hs rfl<|O_s (Sb hs rfl fun b1 _ hs=>O_s (Bd hs zeroValue186 (cs:=((List.replicate 16 false).map Bb)) rfl fun b2 _ hs =>Wp 55 [0,0,1,0,0,0,0,0,0,0,0,1,1] hs rfl<|O_s (Se hs zeroValue3 rfl fun v1 _ hs _=>?_)))
 obtain ⟨_,hG48,hl48,hs⟩:=hs.fixRow noM
 refine O_s (Sc (Hy (la:=[x]) (ma:=[]) hl48 (show Bt _ (Vn) [] from Sl.nil _ _) Z8 nI sM sM) hs rfl fun v2 G' H' _ hR hG49 hs=>?_)
 obtain ⟨rfl,rfl⟩:=hR
 replace hs:=hs.n rfl
 refine O_n (Sw hs rfl Z5 Z5 (Bx _) fun _ hs=>Wp 1 [1,2] hs rfl<|Ah<|Zz results112 (Rb 0 hs rfl Z5) ?_)
 exact ⟨_,[],hs.done,rfl,rfl⟩
theorem yG {G:Ghost} {x n els:Int} {q:Of} (hn:0≤n∧n≤3) :
  Ai prog 110 [.agg #[Vi 8,Vi x,Vi 0,Vi 0,Vi n,Vi 0,Vi 0,Vn,Vf,Vi 0,Vn,Vn,Af 0,Af 0,Af 0,Af 0,Vi q.base,Vi q.digits,Vi q.top,Vi q.over,.bool q.zeros,Vn,Vn,Vi 0,Vf,Vi 0,Vi 0,Vi 0,Vi 0,Vn,.string ⟨[].toArray⟩,Vi (-1),Vi els]] G [] fun r _ H'=>H'=[]∧r=.tuple #[(.agg ((Ih [] [n]).map Bb).toArray),Vt]:=by
 refine Ai.of_T [(0,_)] func110 rfl ntmps110 sM rfl fun w0 hs =>Wt 2 [] hs rfl<|O_s (Sb hs rfl fun b1 _ hs=>O_s (Bd hs zeroValue186 (cs:=((List.replicate 16 false).map Bb)) rfl fun b2 _ hs =>Wp 31 [0,0,1,0,0,4,1] hs rfl<|O_s (Se hs zeroValue3 rfl fun v1 _ hs _=>?_)))
 obtain ⟨_,hG21,hl21,hs⟩:=hs.fixRow noM
 refine O_s (Sc (Hy (la:=[]) (ma:=[n]) (show Bt _ (Vn) [] from Sl.nil _ _) hl21 nI Z26 sM sM) hs rfl fun v2 G' H' _ hR hG22 hs=>?_)
 obtain ⟨rfl,rfl⟩:=hR
 replace hs:=hs.n rfl
 refine O_n (Sw hs rfl Z5 Z5 (Bx _) fun _ hs=>Wp 2 [0] hs rfl<|Ah ?_)
 have hr:=hs
 refine Bi (vs:=[_,_]) results110 rfl ⟨Bk 0 hr isAgg186 sizeOf186 rfl (cs:=_) rfl Z5,rfl,trivial⟩ ?_
 try dsimp only [tup]
 exact ⟨_,[],hs.done,rfl,rfl⟩
theorem rds9_ok {G:Ghost} {x els:Int} {Ap Ay:Option Addr} {cp cy:Nat} {ys:List Int} (hx:Ha x=true) :
  Ai prog 112 [.agg #[Vi 9,Vi x,Vi 0,Vi 0,Vi 0,Vi 0,Vi 0,Vn,Vf,Vi 0,Vn,Vn,Af 0,Af 0,Af 0,Af 0,Vi 0,Vi 0,Vi 0,Vi 0,Vf,.slice Ap 2 cp,.slice Ay ys.length cy,Vi 0,Vf,Vi 0,Vi 0,Vi 0,Vi 0,Vn,.string ⟨[].toArray⟩,Vi (-1),Vi els]] G [] fun r _ H'=>H'=[]∧r=(.agg ((Ih [x] []).map Bb).toArray):=by
 refine Ai.of_T [(0,_)] func112 rfl ntmps112 sM rfl fun w0 hs =>Wt 2 [] hs rfl<|O_s (Sb hs rfl fun b1 _ hs=>O_s (Bd hs zeroValue186 (cs:=((List.replicate 16 false).map Bb)) rfl fun b2 _ hs =>Wp 55 [0,0,1,0,0,0,0,0,0,0,0,1,1] hs rfl<|O_s (Se hs zeroValue3 rfl fun v1 _ hs _=>?_)))
 obtain ⟨_,hG48,hl48,hs⟩:=hs.fixRow noM
 refine O_s (Sc (Hy (la:=[x]) (ma:=[]) hl48 (show Bt _ (Vn) [] from Sl.nil _ _) Z8 nI sM sM) hs rfl fun v2 G' H' _ hR hG49 hs=>?_)
 obtain ⟨rfl,rfl⟩:=hR
 replace hs:=hs.n rfl
 refine O_n (Sw hs rfl Z5 Z5 (Bx _) fun _ hs=>Wp 1 [1,2] hs rfl<|Ah<|Zz results112 (Rb 0 hs rfl Z5) ?_)
 exact ⟨_,[],hs.done,rfl,rfl⟩
theorem yH {G:Ghost} {x els:Int} {Ap Ay:Option Addr} {cp cy:Nat} {ys:List Int} (hy:Bt G (.slice Ay ys.length cy) ys) (hyb:∀ x∈ys,0≤x∧x≤15) (hyl:ys.length≤1000) :
  Ai prog 110 [.agg #[Vi 9,Vi x,Vi 0,Vi 0,Vi 0,Vi 0,Vi 0,Vn,Vf,Vi 0,Vn,Vn,Af 0,Af 0,Af 0,Af 0,Vi 0,Vi 0,Vi 0,Vi 0,Vf,.slice Ap 2 cp,.slice Ay ys.length cy,Vi 0,Vf,Vi 0,Vi 0,Vi 0,Vi 0,Vn,.string ⟨[].toArray⟩,Vi (-1),Vi els]] G [] fun r _ H'=>H'=[]∧r=.tuple #[(.agg ((Ih ys []).map Bb).toArray),Vt]:=by
 refine Ai.of_T [(0,_)] func110 rfl ntmps110 sM rfl fun w0 hs=>?_
 have hy0:=hy
 refine Wt 2 [] hs rfl<|O_s (Sb hs rfl fun b1 _ hs=>O_s (Bd hs zeroValue186 (cs:=((List.replicate 16 false).map Bb)) rfl fun b2 _ hs =>Wp 39 [0,0,1,0,0,0,22,1] hs rfl<|O_s (Sc (Hy (la:=ys) (ma:=[]) hy (show Bt _ (Vn) [] from Sl.nil _ _) hyb nI hyl sM) hs rfl fun v1 G' H' _ hR hG25 hs=>?_)))
 obtain ⟨rfl,rfl⟩:=hR
 replace hs:=hs.n rfl
 refine O_n (Sw hs rfl Z5 Z5 (Bx _) fun _ hs=>Wp 2 [0] hs rfl<|Ah ?_)
 have hr:=hs
 refine Bi (vs:=[_,_]) results110 rfl ⟨Bk 0 hr isAgg186 sizeOf186 rfl (cs:=_) rfl Z5,rfl,trivial⟩ ?_
 try dsimp only [tup]
 exact ⟨_,[],hs.done,rfl,rfl⟩
theorem yI {G:Ghost} {i j thn:Int}  :
  Ai prog 112 [.agg #[Vi 11,Vi 0,Vi 0,Vi 0,Vi 0,Vi i,Vi j,Vn,Vf,Vi 0,Vn,Vn,Af 0,Af 0,Af 0,Af 0,Vi 0,Vi 0,Vi 0,Vi 0,Vf,Vn,Vn,Vi 0,Vf,Vi 0,Vi 0,Vi 0,Vi 0,Vn,.string ⟨[].toArray⟩,Vi thn,Vi (-1)]] G [] fun r _ H'=>H'=[]∧r=(.agg ((List.replicate 16 false).map Bb).toArray):=by
 refine Ai.of_T [(0,_)] func112 rfl ntmps112 sM rfl fun w0 hs =>Wt 2 [] hs rfl<|O_s (Sb hs rfl fun b1 _ hs=>O_s (Bd hs zeroValue186 (cs:=((List.replicate 16 false).map Bb)) rfl fun b2 _ hs =>Wp 37 [0,0,1,0,0,0,0,0] hs rfl<|Zy hs (Co underlying186 sizeOf4 zeroValue186 rfl rfl (cs:=[_,_,_,_,_,_,_,_,_,_,_,_,_,_,_,_]) rfl<|O_n (Sw hs rfl Z5 Z5 (rfl) fun _ hs=>Wp 1 [0] hs rfl<|Ah<|Zz results112 (Rb 0 hs rfl Z5) ?_))))
 exact ⟨_,[],hs.done,rfl,rfl⟩
theorem sT {G:Ghost} {i j thn:Int}  :
  Ai prog 110 [.agg #[Vi 11,Vi 0,Vi 0,Vi 0,Vi 0,Vi i,Vi j,Vn,Vf,Vi 0,Vn,Vn,Af 0,Af 0,Af 0,Af 0,Vi 0,Vi 0,Vi 0,Vi 0,Vf,Vn,Vn,Vi 0,Vf,Vi 0,Vi 0,Vi 0,Vi 0,Vn,.string ⟨[].toArray⟩,Vi thn,Vi (-1)]] G [] fun r _ H'=>H'=[]∧r=.tuple #[(.agg ((List.replicate 16 false).map Bb).toArray),Vf]:=by
 refine Ai.of_T [(0,_)] func110 rfl ntmps110 sM rfl fun w0 hs =>Wt 2 [] hs rfl<|O_s (Sb hs rfl fun b1 _ hs=>O_s (Bd hs zeroValue186 (cs:=((List.replicate 16 false).map Bb)) rfl fun b2 _ hs =>Wp 80 [0,0,1,0,0,0,0,0,0,0,5,1,2,3,5,13,0,0] hs rfl ?_))
 have hsW:=hs
 refine Wu 1 [] hs rfl<|Bc [0,1,2,3,4,5,6,7,8,9,10,11,12,13] hsW kR ?_
 replace hs:=hs.drew
 replace hsW:=hsW.drew
 refine Xt 0 hsW rfl (Yk 0 rfl uA<|Xr [1,2,3,4,5,6,7,8,9,10,11,12] [0,1] hsW rfl ?_)
 have hle:=hs.le
 refine Xm 13 rfl (Sw hsW rfl Z5 Z5 (Bx _) fun _ hs=>?_)
 have hsW:=hs
 refine Am hsW hle (gLr _) (lSr _)<|Xa 14 rfl (S_y hsW rfl (Yq rfl<|Xe (Zk [2,3] rfl<|Ah ?_)))
 have hr:=hs
 refine Bi (vs:=[_,_]) results110 rfl ⟨Bk 0 hr isAgg186 sizeOf186 rfl (cs:=_) rfl Z5,rfl,trivial⟩ ?_
 try dsimp only [tup]
 exact ⟨_,[],hs.done,rfl,rfl⟩
theorem yJ {G:Ghost}   :
  Ai prog 112 [.agg #[Vi 12,Vi 0,Vi 0,Vi 0,Vi 0,Vi 0,Vi 0,Vn,Vf,Vi 0,Vn,Vn,Af 0,Af 0,Af 0,Af 0,Vi 0,Vi 0,Vi 0,Vi 0,Vf,Vn,Vn,Vi 0,Vf,Vi 0,Vi 0,Vi 0,Vi 0,Vn,.string ⟨[].toArray⟩,Vi (-1),Vi (-1)]] G [] fun r _ H'=>H'=[]∧r=(.agg ((List.replicate 16 false).map Bb).toArray):=by
 refine Ai.of_T [(0,_)] func112 rfl ntmps112 sM rfl fun w0 hs =>Wt 2 [] hs rfl<|O_s (Sb hs rfl fun b1 _ hs=>O_s (Bd hs zeroValue186 (cs:=((List.replicate 16 false).map Bb)) rfl fun b2 _ hs =>Wp 43 [0,0,1,0,0,0,0,0,0] hs rfl<|Zy hs (Co underlying186 sizeOf4 zeroValue186 rfl rfl (cs:=[_,_,_,_,_,_,_,_,_,_,_,_,_,_,_,_]) rfl<|O_n (Sw hs rfl Z5 Z5 (rfl) fun _ hs=>Wp 1 [0] hs rfl<|Ah<|Zz results112 (Rb 0 hs rfl Z5) ?_))))
 exact ⟨_,[],hs.done,rfl,rfl⟩
theorem sU {G:Ghost}   :
  Ai prog 110 [.agg #[Vi 12,Vi 0,Vi 0,Vi 0,Vi 0,Vi 0,Vi 0,Vn,Vf,Vi 0,Vn,Vn,Af 0,Af 0,Af 0,Af 0,Vi 0,Vi 0,Vi 0,Vi 0,Vf,Vn,Vn,Vi 0,Vf,Vi 0,Vi 0,Vi 0,Vi 0,Vn,.string ⟨[].toArray⟩,Vi (-1),Vi (-1)]] G [] fun r _ H'=>H'=[]∧r=.tuple #[(.agg ((List.replicate 16 false).map Bb).toArray),Vf]:=by
 refine Ai.of_T [(0,_)] func110 rfl ntmps110 sM rfl fun w0 hs =>Wt 2 [] hs rfl<|O_s (Sb hs rfl fun b1 _ hs=>O_s (Bd hs zeroValue186 (cs:=((List.replicate 16 false).map Bb)) rfl fun b2 _ hs =>Wp 80 [0,0,1,0,0,0,0,0,0,0,5,1,2,3,5,13,0,0] hs rfl ?_))
 have hsW:=hs
 refine Wu 1 [] hs rfl<|Bc [0,1,2,3,4,5,6,7,8,9,10,11,12,13] hsW kR ?_
 replace hs:=hs.drew
 replace hsW:=hsW.drew
 refine Xt 0 hsW rfl (Yk 0 rfl uA<|Xr [1,2,3,4,5,6,7,8,9,10,11,12] [0,1] hsW rfl ?_)
 have hle:=hs.le
 refine Xm 13 rfl (Sw hsW rfl Z5 Z5 (Bx _) fun _ hs=>?_)
 have hsW:=hs
 refine Am hsW hle (gLr _) (lSr _)<|Xa 14 rfl (S_y hsW rfl (Yq rfl<|Xe (Zk [2,3] rfl<|Ah ?_)))
 have hr:=hs
 refine Bi (vs:=[_,_]) results110 rfl ⟨Bk 0 hr isAgg186 sizeOf186 rfl (cs:=_) rfl Z5,rfl,trivial⟩ ?_
 try dsimp only [tup]
 exact ⟨_,[],hs.done,rfl,rfl⟩
theorem yK {G:Ghost} {x:Int} {b:UInt8} (hx:Ha x=true) :
  Ai prog 112 [.agg #[Vi 13,Vi x,Vi 0,Vi 0,Vi 0,Vi 0,Vi 0,Vn,Vf,Vi 0,Vn,Vn,Af 0,Af 0,Af 0,Af 0,Vi 0,Vi 0,Vi 0,Vi 0,Vf,Vn,Vn,Vi 0,Vf,Vi 0,Vi 0,Vi 0,Vi 0,Vn,.string ⟨[b].toArray⟩,Vi (-1),Vi (-1)]] G [] fun r _ H'=>H'=[]∧r=(.agg ((Ih [x] []).map Bb).toArray):=by
 refine Ai.of_T [(0,_)] func112 rfl ntmps112 sM rfl fun w0 hs =>Wt 2 [] hs rfl<|O_s (Sb hs rfl fun b1 _ hs=>O_s (Bd hs zeroValue186 (cs:=((List.replicate 16 false).map Bb)) rfl fun b2 _ hs =>Wp 55 [0,0,1,0,0,0,0,0,0,0,0,1,1] hs rfl<|O_s (Se hs zeroValue3 rfl fun v1 _ hs _=>?_)))
 obtain ⟨_,hG48,hl48,hs⟩:=hs.fixRow noM
 refine O_s (Sc (Hy (la:=[x]) (ma:=[]) hl48 (show Bt _ (Vn) [] from Sl.nil _ _) Z8 nI sM sM) hs rfl fun v2 G' H' _ hR hG49 hs=>?_)
 obtain ⟨rfl,rfl⟩:=hR
 replace hs:=hs.n rfl
 refine O_n (Sw hs rfl Z5 Z5 (Bx _) fun _ hs=>Wp 1 [1,2] hs rfl<|Ah<|Zz results112 (Rb 0 hs rfl Z5) ?_)
 exact ⟨_,[],hs.done,rfl,rfl⟩
theorem sV {G:Ghost} {x:Int} {b:UInt8}  :
  Ai prog 110 [.agg #[Vi 13,Vi x,Vi 0,Vi 0,Vi 0,Vi 0,Vi 0,Vn,Vf,Vi 0,Vn,Vn,Af 0,Af 0,Af 0,Af 0,Vi 0,Vi 0,Vi 0,Vi 0,Vf,Vn,Vn,Vi 0,Vf,Vi 0,Vi 0,Vi 0,Vi 0,Vn,.string ⟨[b].toArray⟩,Vi (-1),Vi (-1)]] G [] fun r _ H'=>H'=[]∧r=.tuple #[(.agg ((List.replicate 16 false).map Bb).toArray),Vf]:=by
 refine Ai.of_T [(0,_)] func110 rfl ntmps110 sM rfl fun w0 hs =>Wt 2 [] hs rfl<|O_s (Sb hs rfl fun b1 _ hs=>O_s (Bd hs zeroValue186 (cs:=((List.replicate 16 false).map Bb)) rfl fun b2 _ hs =>Wp 80 [0,0,1,0,0,0,0,0,0,0,5,1,2,3,5,13,0,0] hs rfl ?_))
 have hsW:=hs
 refine Wu 1 [] hs rfl<|Bc [0,1,2,3,4,5,6,7,8,9,10,11,12,13] hsW kR ?_
 replace hs:=hs.drew
 replace hsW:=hsW.drew
 refine Xt 0 hsW rfl (Yk 0 rfl uA<|Xr [1,2,3,4,5,6,7,8,9,10,11,12] [0,1] hsW rfl ?_)
 have hle:=hs.le
 refine Xm 13 rfl (Sw hsW rfl Z5 Z5 (Bx _) fun _ hs=>?_)
 have hsW:=hs
 refine Am hsW hle (gLr _) (lSr _)<|Xa 14 rfl (S_y hsW rfl (Yq rfl<|Xe (Zk [2,3] rfl<|Ah ?_)))
 have hr:=hs
 refine Bi (vs:=[_,_]) results110 rfl ⟨Bk 0 hr isAgg186 sizeOf186 rfl (cs:=_) rfl Z5,rfl,trivial⟩ ?_
 try dsimp only [tup]
 exact ⟨_,[],hs.done,rfl,rfl⟩
theorem yL {G:Ghost} {i:Int}  :
  Ai prog 112 [.agg #[Vi 14,Vi 0,Vi 0,Vi 0,Vi 0,Vi i,Vi 0,Vn,Vf,Vi 0,Vn,Vn,Af 0,Af 0,Af 0,Af 0,Vi 0,Vi 0,Vi 0,Vi 0,Vf,Vn,Vn,Vi 0,Vf,Vi 0,Vi 0,Vi 0,Vi 0,Vn,.string ⟨[].toArray⟩,Vi (-1),Vi (-1)]] G [] fun r _ H'=>H'=[]∧r=(.agg ((List.replicate 16 false).map Bb).toArray):=by
 refine Ai.of_T [(0,_)] func112 rfl ntmps112 sM rfl fun w0 hs =>Wt 2 [] hs rfl<|O_s (Sb hs rfl fun b1 _ hs=>O_s (Bd hs zeroValue186 (cs:=((List.replicate 16 false).map Bb)) rfl fun b2 _ hs =>Wp 49 [0,0,1,0,0,0,0,0,0,0] hs rfl<|Zy hs (Co underlying186 sizeOf4 zeroValue186 rfl rfl (cs:=[_,_,_,_,_,_,_,_,_,_,_,_,_,_,_,_]) rfl<|O_n (Sw hs rfl Z5 Z5 (rfl) fun _ hs=>Wp 1 [0] hs rfl<|Ah<|Zz results112 (Rb 0 hs rfl Z5) ?_))))
 exact ⟨_,[],hs.done,rfl,rfl⟩
theorem sW {G:Ghost} {i:Int}  :
  Ai prog 110 [.agg #[Vi 14,Vi 0,Vi 0,Vi 0,Vi 0,Vi i,Vi 0,Vn,Vf,Vi 0,Vn,Vn,Af 0,Af 0,Af 0,Af 0,Vi 0,Vi 0,Vi 0,Vi 0,Vf,Vn,Vn,Vi 0,Vf,Vi 0,Vi 0,Vi 0,Vi 0,Vn,.string ⟨[].toArray⟩,Vi (-1),Vi (-1)]] G [] fun r _ H'=>H'=[]∧r=.tuple #[(.agg ((List.replicate 16 false).map Bb).toArray),Vf]:=by
 refine Ai.of_T [(0,_)] func110 rfl ntmps110 sM rfl fun w0 hs =>Wt 2 [] hs rfl<|O_s (Sb hs rfl fun b1 _ hs=>O_s (Bd hs zeroValue186 (cs:=((List.replicate 16 false).map Bb)) rfl fun b2 _ hs =>Wp 80 [0,0,1,0,0,0,0,0,0,0,5,1,2,3,5,13,0,0] hs rfl ?_))
 have hsW:=hs
 refine Wu 1 [] hs rfl<|Bc [0,1,2,3,4,5,6,7,8,9,10,11,12,13] hsW kR ?_
 replace hs:=hs.drew
 replace hsW:=hsW.drew
 refine Xt 0 hsW rfl (Yk 0 rfl uA<|Xr [1,2,3,4,5,6,7,8,9,10,11,12] [0,1] hsW rfl ?_)
 have hle:=hs.le
 refine Xm 13 rfl (Sw hsW rfl Z5 Z5 (Bx _) fun _ hs=>?_)
 have hsW:=hs
 refine Am hsW hle (gLr _) (lSr _)<|Xa 14 rfl (S_y hsW rfl (Yq rfl<|Xe (Zk [2,3] rfl<|Ah ?_)))
 have hr:=hs
 refine Bi (vs:=[_,_]) results110 rfl ⟨Bk 0 hr isAgg186 sizeOf186 rfl (cs:=_) rfl Z5,rfl,trivial⟩ ?_
 try dsimp only [tup]
 exact ⟨_,[],hs.done,rfl,rfl⟩
theorem sX {G:Ghost} {thn els:Int} {ng:Bool} {Ar:Option Addr} {cr:Nat} {c:List Nat}  :
  Ai prog 112 [.agg #[Vi 10,Vi 0,Vi 0,Vi 0,Vi 0,Vi 0,Vi 0,Vn,Vf,Vi 0,Vn,Vn,Af 0,Af 0,Af 0,Af 0,Vi 0,Vi 0,Vi 0,Vi 0,Vf,Vn,Vn,Vi 1,.bool ng,Vi 0,Vi 0,Vi 0,Vi 0,.slice Ar 2 cr,.string ⟨[].toArray⟩,Vi thn,Vi els]] G [] fun r _ H'=>H'=[]∧r=(.agg ((Ih [0] []).map Bb).toArray):=by
 refine Ai.of_T [(0,_)] func112 rfl ntmps112 sM rfl fun w0 hs =>Wt 2 [] hs rfl<|O_s (Sb hs rfl fun b1 _ hs=>O_s (Bd hs zeroValue186 (cs:=((List.replicate 16 false).map Bb)) rfl fun b2 _ hs =>Wp 24 [0,0,1,0,0,0,23,1] hs rfl<|O_s (Sa hs zeroValue135 rfl fun b3 _ hs=>O_n (Sg hs rfl (rfl) fun _ hs=>Wp 23 [0,0,0,0,0,0,2,0] hs rfl<|O_s (Se hs zeroValue3 rfl fun v1 _ hs _=>?_)))))
 obtain ⟨_,hG23,hl23,hs⟩:=hs.fixRow noM
 refine O_s (Sc (Hy (la:=[0]) (ma:=[]) hl23 (show Bt _ (Vn) [] from Sl.nil _ _) Z26 nI sM sM) hs rfl fun v2 G' H' _ hR hG24 hs=>?_)
 obtain ⟨rfl,rfl⟩:=hR
 replace hs:=hs.n rfl
 refine O_n (Sw hs.f1 rfl Z5 Z5 (Bx _) fun _ hs=>Wp 1 [1,2] hs rfl<|Ah<|Zz results112 (Rb 0 hs rfl Z5) ?_)
 exact ⟨_,[],hs.done,rfl,rfl⟩
theorem mO {G:Ghost} {thn els:Int} {ng:Bool} {Ar:Option Addr} {cr:Nat} {c:List Nat}  :
  Ai prog 110 [.agg #[Vi 10,Vi 0,Vi 0,Vi 0,Vi 0,Vi 0,Vi 0,Vn,Vf,Vi 0,Vn,Vn,Af 0,Af 0,Af 0,Af 0,Vi 0,Vi 0,Vi 0,Vi 0,Vf,Vn,Vn,Vi 1,.bool ng,Vi 0,Vi 0,Vi 0,Vi 0,.slice Ar 2 cr,.string ⟨[].toArray⟩,Vi thn,Vi els]] G [] fun r _ H'=>H'=[]∧r=.tuple #[(.agg ((List.replicate 16 false).map Bb).toArray),Vf]:=by
 refine Ai.of_T [(0,_)] func110 rfl ntmps110 sM rfl fun w0 hs =>Wt 2 [] hs rfl<|O_s (Sb hs rfl fun b1 _ hs=>O_s (Bd hs zeroValue186 (cs:=((List.replicate 16 false).map Bb)) rfl fun b2 _ hs =>Wp 80 [0,0,1,0,0,0,0,0,0,0,5,1,2,3,5,13,0,0] hs rfl ?_))
 have hsW:=hs
 refine Wu 1 [] hs rfl<|Bc [0,1,2,3,4,5,6,7,8,9,10,11,12,13] hsW kR ?_
 replace hs:=hs.drew
 replace hsW:=hsW.drew
 refine Xt 0 hsW rfl (Yk 0 rfl uA<|Xr [1,2,3,4,5,6,7,8,9,10,11,12] [0,1] hsW rfl ?_)
 have hle:=hs.le
 refine Xm 13 rfl (Sw hsW rfl Z5 Z5 (Bx _) fun _ hs=>?_)
 have hsW:=hs
 refine Am hsW hle (gLr _) (lSr _)<|Xa 14 rfl (S_y hsW rfl (Yq rfl<|Xe (Zk [2,3] rfl<|Ah ?_)))
 have hr:=hs
 refine Bi (vs:=[_,_]) results110 rfl ⟨Bk 0 hr isAgg186 sizeOf186 rfl (cs:=_) rfl Z5,rfl,trivial⟩ ?_
 try dsimp only [tup]
 exact ⟨_,[],hs.done,rfl,rfl⟩
theorem sY {G:Ghost} {thn els kk:Int} {ng:Bool}  :
  Ai prog 112 [.agg #[Vi 10,Vi 0,Vi 0,Vi 0,Vi 0,Vi 0,Vi 0,Vn,Vf,Vi 0,Vn,Vn,Af 0,Af 0,Af 0,Af 0,Vi 0,Vi 0,Vi 0,Vi 0,Vf,Vn,Vn,Vi 3,.bool ng,Vi 0,Vi 0,Vi 0,Vi kk,Vn,.string ⟨[].toArray⟩,Vi thn,Vi els]] G [] fun r _ H'=>H'=[]∧r=(.agg ((Ih [0] []).map Bb).toArray):=by
 refine Ai.of_T [(0,_)] func112 rfl ntmps112 sM rfl fun w0 hs =>Wt 2 [] hs rfl<|O_s (Sb hs rfl fun b1 _ hs=>O_s (Bd hs zeroValue186 (cs:=((List.replicate 16 false).map Bb)) rfl fun b2 _ hs =>Wp 24 [0,0,1,0,0,0,23,1] hs rfl<|O_s (Sa hs zeroValue135 rfl fun b3 _ hs=>O_n (Sg hs rfl (rfl) fun _ hs=>Wp 23 [0,0,0,0,0,0,2,0] hs rfl<|O_s (Se hs zeroValue3 rfl fun v1 _ hs _=>?_)))))
 obtain ⟨_,hG23,hl23,hs⟩:=hs.fixRow noM
 refine O_s (Sc (Hy (la:=[0]) (ma:=[]) hl23 (show Bt _ (Vn) [] from Sl.nil _ _) Z26 nI sM sM) hs rfl fun v2 G' H' _ hR hG24 hs=>?_)
 obtain ⟨rfl,rfl⟩:=hR
 replace hs:=hs.n rfl
 refine O_n (Sw hs.f1 rfl Z5 Z5 (Bx _) fun _ hs=>Wp 1 [1,2] hs rfl<|Ah<|Zz results112 (Rb 0 hs rfl Z5) ?_)
 exact ⟨_,[],hs.done,rfl,rfl⟩
theorem mP {G:Ghost} {thn els kk:Int} {ng:Bool}  :
  Ai prog 110 [.agg #[Vi 10,Vi 0,Vi 0,Vi 0,Vi 0,Vi 0,Vi 0,Vn,Vf,Vi 0,Vn,Vn,Af 0,Af 0,Af 0,Af 0,Vi 0,Vi 0,Vi 0,Vi 0,Vf,Vn,Vn,Vi 3,.bool ng,Vi 0,Vi 0,Vi 0,Vi kk,Vn,.string ⟨[].toArray⟩,Vi thn,Vi els]] G [] fun r _ H'=>H'=[]∧r=.tuple #[(.agg ((List.replicate 16 false).map Bb).toArray),Vf]:=by
 refine Ai.of_T [(0,_)] func110 rfl ntmps110 sM rfl fun w0 hs =>Wt 2 [] hs rfl<|O_s (Sb hs rfl fun b1 _ hs=>O_s (Bd hs zeroValue186 (cs:=((List.replicate 16 false).map Bb)) rfl fun b2 _ hs =>Wp 80 [0,0,1,0,0,0,0,0,0,0,5,1,2,3,5,13,0,0] hs rfl ?_))
 have hsW:=hs
 refine Wu 1 [] hs rfl<|Bc [0,1,2,3,4,5,6,7,8,9,10,11,12,13] hsW kR ?_
 replace hs:=hs.drew
 replace hsW:=hsW.drew
 refine Xt 0 hsW rfl (Yk 0 rfl uA<|Xr [1,2,3,4,5,6,7,8,9,10,11,12] [0,1] hsW rfl ?_)
 have hle:=hs.le
 refine Xm 13 rfl (Sw hsW rfl Z5 Z5 (Bx _) fun _ hs=>?_)
 have hsW:=hs
 refine Am hsW hle (gLr _) (lSr _)<|Xa 14 rfl (S_y hsW rfl (Yq rfl<|Xe (Zk [2,3] rfl<|Ah ?_)))
 have hr:=hs
 refine Bi (vs:=[_,_]) results110 rfl ⟨Bk 0 hr isAgg186 sizeOf186 rfl (cs:=_) rfl Z5,rfl,trivial⟩ ?_
 try dsimp only [tup]
 exact ⟨_,[],hs.done,rfl,rfl⟩
theorem tgt1 {y:Int} (h:Js [y]=true):0≤y∧y≤11:=by
  unfold Js at h;rw [eO] at h
  simp only [Bool.and_eq_true] at h
  have:=of_decide_eq_true (show decide (1≤y∧y≤11)=true from h.1)
  omega
theorem Sr:∀ (l seen:List Int),eO seen l=true→∀ x∈l,1≤x∧x≤11
  | [],_,_,_,h=>by cases h
  | a::l,seen,h,x,hx=>by
    rw [eO] at h
    simp only [Bool.and_eq_true] at h
    rcases List.mem_cons.1 hx with rfl | hx
    · exact of_decide_eq_true (show decide (1≤x∧x≤11)=true from h.1)
    · exact Sr l _ h.2.2 x hx
theorem tgtA {l:List Int} (h:Js l=true):∀ x∈l,0≤x∧x≤15:=fun x hx=>by have:=Sr l [] h x hx;omega
theorem tgt2 {y z:Int} (h:Js [y,z]=true):(0≤y∧y≤11)∧(0≤z∧z≤11):=by
  have h1:=Sr _ [] h y sM
  have h2:=Sr _ [] h z sM
  omega
theorem sZ {G:Ghost} {x y els:Int} {A1 A2:Option Addr} {k1 k2:Nat} {o:kO} (hy:0≤y∧y≤11):Ai prog 110 [.agg #[Vi 6,Vi x,Vi y,Vi 0,Vi 0,Vi 0,Vi 0,Vn,Vf,Vi o.kind,.slice A1 o.old.length k1,.slice A2 o.new.length k2,Af 0,Af 0,Af 0,Af 0,Vi 0,Vi 0,Vi 0,Vi 0,Vf,Vn,Vn,Vi 0,Vf,Vi 0,Vi 0,Vi 0,Vi 0,Vn,.string ⟨[].toArray⟩,Vi (-1),Vi els]] G [] fun r _ H'=>H'=[]∧r=.tuple #[(.agg (((List.replicate 16 false).set y.toNat true).map Bb).toArray),.bool (decide (((6:Int)=3)∨((6:Int)=5)∨((6:Int)=6∧o.kind=3)))]:=by
  have e:decide (((6:Int)=3)∨((6:Int)=5)∨((6:Int)=6∧o.kind=3))=decide (o.kind=3):=by simp
  rw [e];exact yE hy
theorem Wj {G:Ghost} {cs:List Value} {s:Bm} (h:Gt G cs s) (hk:bP s=true):Ai prog 112 [.agg cs.toArray] G [] fun r _ H'=>H'=[]∧r=(.agg ((Qp s).map Bb).toArray):=by
  obtain ⟨vb,vo,vn,vp,vy,vr,rfl,⟨hb,nb⟩,⟨ho1,no⟩,⟨ho2,nn⟩,⟨hp,np⟩,⟨hy,ny⟩,⟨hr,nr⟩⟩:=h
  unfold bP at hk
  by_cases h1:s.kind=1
  · rw [if_pos h1] at hk
    simp only [Bool.and_eq_true,decide_eq_true_eq] at hk
    obtain ⟨he,hx,ht⟩:=hk
    obtain ⟨kind,x,y,z,n,i,j,b,last,op,c0,c1,c2,c3,rule,p,ys,cond,name,thn,els⟩:=s
    dsimp only at *
    simp only [Bg,Bm.mk.injEq] at he
    obtain ⟨rfl,_,_,rfl,rfl,rfl,rfl,rfl,rfl,rfl,rfl,rfl,rfl,rfl,rfl,rfl,rfl,rfl,rfl,rfl,rfl⟩:=he
    obtain rfl:=nb rfl
    obtain rfl:=no rfl
    obtain rfl:=nn rfl
    obtain rfl:=np rfl
    obtain rfl:=ny rfl
    obtain rfl:=nr rfl
    exact rds1_ok hx
  rw [if_neg h1] at hk
  by_cases h3:s.kind=3
  · rw [if_pos h3] at hk
    simp only [Bool.and_eq_true,decide_eq_true_eq] at hk
    obtain ⟨he,hx,hl,ht,hbl⟩:=hk
    obtain ⟨kind,x,y,z,n,i,j,b,last,op,c0,c1,c2,c3,rule,p,ys,cond,name,thn,els⟩:=s
    dsimp only at *
    simp only [Bg,Bm.mk.injEq] at he
    obtain ⟨rfl,_,_,_,rfl,rfl,rfl,_,_,rfl,rfl,rfl,rfl,rfl,rfl,rfl,rfl,rfl,rfl,rfl,_⟩:=he
    obtain rfl:=no rfl
    obtain rfl:=nn rfl
    obtain rfl:=np rfl
    obtain rfl:=ny rfl
    obtain rfl:=nr rfl
    obtain ⟨Ab,cb,rfl,_⟩:=id hb
    exact rds3_ok hx
  rw [if_neg h3] at hk
  by_cases h4:s.kind=4
  · rw [if_pos h4] at hk
    simp only [Bool.and_eq_true,decide_eq_true_eq] at hk
    obtain ⟨he,hx,ht,hi,hj⟩:=hk
    obtain ⟨kind,x,y,z,n,i,j,b,last,op,c0,c1,c2,c3,rule,p,ys,cond,name,thn,els⟩:=s
    dsimp only at *
    simp only [Bg,Bm.mk.injEq] at he
    obtain ⟨rfl,_,_,rfl,rfl,_,_,rfl,rfl,rfl,rfl,rfl,rfl,rfl,rfl,rfl,rfl,rfl,rfl,rfl,rfl⟩:=he
    obtain rfl:=nb rfl
    obtain rfl:=no rfl
    obtain rfl:=nn rfl
    obtain rfl:=np rfl
    obtain rfl:=ny rfl
    obtain rfl:=nr rfl
    exact rds4_ok hx
  rw [if_neg h4] at hk
  by_cases h6:s.kind=6
  · rw [if_pos h6] at hk
    simp only [Bool.and_eq_true,decide_eq_true_eq] at hk
    obtain ⟨he,hx,hl,ht,hv⟩:=hk
    obtain ⟨kind,x,y,z,n,i,j,b,last,op,c0,c1,c2,c3,rule,p,ys,cond,name,thn,els⟩:=s
    dsimp only at *
    simp only [Bg,Bm.mk.injEq] at he
    obtain ⟨rfl,_,_,rfl,rfl,rfl,rfl,rfl,rfl,_,rfl,rfl,rfl,rfl,rfl,rfl,rfl,rfl,rfl,rfl,_⟩:=he
    obtain rfl:=nb rfl
    obtain rfl:=np rfl
    obtain rfl:=ny rfl
    obtain rfl:=nr rfl
    obtain ⟨A1,k1,rfl,_⟩:=id ho1
    obtain ⟨A2,k2,rfl,_⟩:=id ho2
    exact rds6_ok (o:=op) hx
  rw [if_neg h6] at hk
  by_cases h7:s.kind=7
  · rw [if_pos h7] at hk
    simp only [Bool.and_eq_true,decide_eq_true_eq] at hk
    obtain ⟨he,hx,ht⟩:=hk
    obtain ⟨kind,x,y,z,n,i,j,b,last,op,c0,c1,c2,c3,rule,p,ys,cond,name,thn,els⟩:=s
    dsimp only at *
    simp only [Bg,Bm.mk.injEq] at he
    obtain ⟨rfl,_,_,rfl,rfl,rfl,rfl,rfl,rfl,rfl,_,_,_,_,rfl,rfl,rfl,rfl,rfl,rfl,rfl⟩:=he
    obtain rfl:=nb rfl
    obtain rfl:=no rfl
    obtain rfl:=nn rfl
    obtain rfl:=np rfl
    obtain rfl:=ny rfl
    obtain rfl:=nr rfl
    exact rds7_ok hx
  rw [if_neg h7] at hk
  by_cases h8:s.kind=8
  · rw [if_pos h8] at hk
    simp only [Bool.and_eq_true,decide_eq_true_eq] at hk
    obtain ⟨he,hx,hl,hn,hq⟩:=hk
    obtain ⟨kind,x,y,z,n,i,j,b,last,op,c0,c1,c2,c3,rule,p,ys,cond,name,thn,els⟩:=s
    dsimp only at *
    simp only [Bg,Bm.mk.injEq] at he
    obtain ⟨rfl,_,rfl,rfl,_,rfl,rfl,rfl,rfl,rfl,rfl,rfl,rfl,rfl,_,rfl,rfl,rfl,rfl,rfl,_⟩:=he
    obtain rfl:=nb rfl
    obtain rfl:=no rfl
    obtain rfl:=nn rfl
    obtain rfl:=np rfl
    obtain rfl:=ny rfl
    obtain rfl:=nr rfl
    exact rds8_ok (q:=rule) hx
  rw [if_neg h8] at hk
  by_cases h9:s.kind=9
  · rw [if_pos h9] at hk
    simp only [Bool.and_eq_true,decide_eq_true_eq] at hk
    obtain ⟨he,hx,hl,hyl,ht,hpp⟩:=hk
    obtain ⟨kind,x,y,z,n,i,j,b,last,op,c0,c1,c2,c3,rule,p,ys,cond,name,thn,els⟩:=s
    dsimp only at *
    simp only [Bg,Bm.mk.injEq] at he
    obtain ⟨rfl,_,rfl,rfl,rfl,rfl,rfl,rfl,rfl,rfl,rfl,rfl,rfl,rfl,rfl,_,_,rfl,rfl,rfl,_⟩:=he
    obtain rfl:=nb rfl
    obtain rfl:=no rfl
    obtain rfl:=nn rfl
    obtain rfl:=nr rfl
    split at hpp
    · rename_i p0 p1
      obtain ⟨Ap,cp,rfl⟩:∃ A c,vp=.slice A 2 c:=Be.slice hp
      obtain ⟨Ay,cy,rfl,_⟩:=id hy
      exact rds9_ok hx
    · cases hpp
  rw [if_neg h9] at hk
  by_cases h10:s.kind=10
  · rw [if_pos h10] at hk
    simp only [Bool.and_eq_true,Bool.or_eq_true,decide_eq_true_eq] at hk
    obtain ⟨he,hl,ht,hcc⟩:=hk
    obtain ⟨kind,x,y,z,n,i,j,b,last,op,c0,c1,c2,c3,rule,p,ys,cond,name,thn,els⟩:=s
    dsimp only at *
    simp only [Bg,Bm.mk.injEq] at he
    obtain ⟨rfl,rfl,rfl,rfl,rfl,rfl,rfl,rfl,rfl,rfl,rfl,rfl,rfl,rfl,rfl,rfl,rfl,_,rfl,_,_⟩:=he
    obtain rfl:=nb rfl
    obtain rfl:=no rfl
    obtain rfl:=nn rfl
    obtain rfl:=np rfl
    obtain rfl:=ny rfl
    obtain ⟨ck,cg,cx,cy,cn,cc,cr⟩:=cond
    dsimp only at *
    rcases hcc with ⟨hc,hsm⟩ | ⟨hc,h0,hkk⟩
    · simp only [Nc.mk.injEq] at hc
      obtain ⟨rfl,_,rfl,rfl,rfl,rfl,_⟩:=hc
      have hl2:cr.length=2:=by rcases hsm with rfl | rfl | rfl<;>rfl
      obtain ⟨c,rfl⟩:∃ c,cr=Dy c:=by rcases hsm with rfl | rfl | rfl<;>exact ⟨_,rfl⟩
      obtain ⟨Ar,kr,rfl⟩:∃ A c,vr=.slice A 2 c:=Be.slice hr
      exact sX (c:=c)
    · simp only [Nc.mk.injEq] at hc
      obtain ⟨rfl,_,rfl,rfl,rfl,_,rfl⟩:=hc
      obtain rfl:=nr rfl
      exact sY
  rw [if_neg h10] at hk
  by_cases h11:s.kind=11
  · rw [if_pos h11] at hk
    simp only [Bool.and_eq_true,decide_eq_true_eq] at hk
    obtain ⟨he,ht,hi,hj⟩:=hk
    obtain ⟨kind,x,y,z,n,i,j,b,last,op,c0,c1,c2,c3,rule,p,ys,cond,name,thn,els⟩:=s
    dsimp only at *
    simp only [Bg,Bm.mk.injEq] at he
    obtain ⟨rfl,rfl,rfl,rfl,rfl,_,_,rfl,rfl,rfl,rfl,rfl,rfl,rfl,rfl,rfl,rfl,rfl,rfl,_,rfl⟩:=he
    obtain rfl:=nb rfl
    obtain rfl:=no rfl
    obtain rfl:=nn rfl
    obtain rfl:=np rfl
    obtain rfl:=ny rfl
    obtain rfl:=nr rfl
    exact yI
  rw [if_neg h11] at hk
  by_cases h12:s.kind=12
  · rw [if_pos h12] at hk
    simp only [Bool.and_eq_true,decide_eq_true_eq] at hk
    have he:=hk
    obtain ⟨kind,x,y,z,n,i,j,b,last,op,c0,c1,c2,c3,rule,p,ys,cond,name,thn,els⟩:=s
    dsimp only at *
    simp only [Bg,Bm.mk.injEq] at he
    obtain ⟨rfl,rfl,rfl,rfl,rfl,rfl,rfl,rfl,rfl,rfl,rfl,rfl,rfl,rfl,rfl,rfl,rfl,rfl,rfl,rfl,rfl⟩:=he
    obtain rfl:=nb rfl
    obtain rfl:=no rfl
    obtain rfl:=nn rfl
    obtain rfl:=np rfl
    obtain rfl:=ny rfl
    obtain rfl:=nr rfl
    exact yJ
  rw [if_neg h12] at hk
  by_cases h13:s.kind=13
  · rw [if_pos h13] at hk
    simp only [Bool.and_eq_true,decide_eq_true_eq] at hk
    obtain ⟨he,hx,hnm⟩:=hk
    obtain ⟨kind,x,y,z,n,i,j,b,last,op,c0,c1,c2,c3,rule,p,ys,cond,name,thn,els⟩:=s
    dsimp only at *
    simp only [Bg,Bm.mk.injEq] at he
    obtain ⟨rfl,_,rfl,rfl,rfl,rfl,rfl,rfl,rfl,rfl,rfl,rfl,rfl,rfl,rfl,rfl,rfl,rfl,_,rfl,rfl⟩:=he
    obtain rfl:=nb rfl
    obtain rfl:=no rfl
    obtain rfl:=nn rfl
    obtain rfl:=np rfl
    obtain rfl:=ny rfl
    obtain rfl:=nr rfl
    split at hnm
    · rename_i b0
      exact yK hx
    · cases hnm
  rw [if_neg h13] at hk
  by_cases h14:s.kind=14
  · rw [if_pos h14] at hk
    simp only [Bool.and_eq_true,decide_eq_true_eq] at hk
    obtain ⟨he,hi⟩:=hk
    obtain ⟨kind,x,y,z,n,i,j,b,last,op,c0,c1,c2,c3,rule,p,ys,cond,name,thn,els⟩:=s
    dsimp only at *
    simp only [Bg,Bm.mk.injEq] at he
    obtain ⟨rfl,rfl,rfl,rfl,rfl,_,rfl,rfl,rfl,rfl,rfl,rfl,rfl,rfl,rfl,rfl,rfl,rfl,rfl,rfl,rfl⟩:=he
    obtain rfl:=nb rfl
    obtain rfl:=no rfl
    obtain rfl:=nn rfl
    obtain rfl:=np rfl
    obtain rfl:=ny rfl
    obtain rfl:=nr rfl
    exact yL
  rw [if_neg h14] at hk
  cases hk
theorem Ss {G:Ghost} {cs:List Value} {s:Bm} (h:Gt G cs s) (hk:bP s=true):Ai prog 110 [.agg cs.toArray] G [] fun r _ H'=>H'=[]∧r=.tuple #[(.agg ((Gd s).1.map Bb).toArray),.bool (Gd s).2]:=by
  obtain ⟨vb,vo,vn,vp,vy,vr,rfl,⟨hb,nb⟩,⟨ho1,no⟩,⟨ho2,nn⟩,⟨hp,np⟩,⟨hy,ny⟩,⟨hr,nr⟩⟩:=h
  unfold bP at hk
  by_cases h1:s.kind=1
  · rw [if_pos h1] at hk
    simp only [Bool.and_eq_true,decide_eq_true_eq] at hk
    obtain ⟨he,hx,ht⟩:=hk
    obtain ⟨kind,x,y,z,n,i,j,b,last,op,c0,c1,c2,c3,rule,p,ys,cond,name,thn,els⟩:=s
    dsimp only at *
    simp only [Bg,Bm.mk.injEq] at he
    obtain ⟨rfl,_,_,rfl,rfl,rfl,rfl,rfl,rfl,rfl,rfl,rfl,rfl,rfl,rfl,rfl,rfl,rfl,rfl,rfl,rfl⟩:=he
    obtain rfl:=nb rfl
    obtain rfl:=no rfl
    obtain rfl:=nn rfl
    obtain rfl:=np rfl
    obtain rfl:=ny rfl
    obtain rfl:=nr rfl
    exact yB (tgt1 ht)
  rw [if_neg h1] at hk
  by_cases h3:s.kind=3
  · rw [if_pos h3] at hk
    simp only [Bool.and_eq_true,decide_eq_true_eq] at hk
    obtain ⟨he,hx,hl,ht,hbl⟩:=hk
    obtain ⟨kind,x,y,z,n,i,j,b,last,op,c0,c1,c2,c3,rule,p,ys,cond,name,thn,els⟩:=s
    dsimp only at *
    simp only [Bg,Bm.mk.injEq] at he
    obtain ⟨rfl,_,_,_,rfl,rfl,rfl,_,_,rfl,rfl,rfl,rfl,rfl,rfl,rfl,rfl,rfl,rfl,rfl,_⟩:=he
    obtain rfl:=no rfl
    obtain rfl:=nn rfl
    obtain rfl:=np rfl
    obtain rfl:=ny rfl
    obtain rfl:=nr rfl
    obtain ⟨Ab,cb,rfl,_⟩:=id hb
    exact yC (tgt2 ht).1 (tgt2 ht).2
  rw [if_neg h3] at hk
  by_cases h4:s.kind=4
  · rw [if_pos h4] at hk
    simp only [Bool.and_eq_true,decide_eq_true_eq] at hk
    obtain ⟨he,hx,ht,hi,hj⟩:=hk
    obtain ⟨kind,x,y,z,n,i,j,b,last,op,c0,c1,c2,c3,rule,p,ys,cond,name,thn,els⟩:=s
    dsimp only at *
    simp only [Bg,Bm.mk.injEq] at he
    obtain ⟨rfl,_,_,rfl,rfl,_,_,rfl,rfl,rfl,rfl,rfl,rfl,rfl,rfl,rfl,rfl,rfl,rfl,rfl,rfl⟩:=he
    obtain rfl:=nb rfl
    obtain rfl:=no rfl
    obtain rfl:=nn rfl
    obtain rfl:=np rfl
    obtain rfl:=ny rfl
    obtain rfl:=nr rfl
    exact yD (tgt1 ht)
  rw [if_neg h4] at hk
  by_cases h6:s.kind=6
  · rw [if_pos h6] at hk
    simp only [Bool.and_eq_true,decide_eq_true_eq] at hk
    obtain ⟨he,hx,hl,ht,hv⟩:=hk
    obtain ⟨kind,x,y,z,n,i,j,b,last,op,c0,c1,c2,c3,rule,p,ys,cond,name,thn,els⟩:=s
    dsimp only at *
    simp only [Bg,Bm.mk.injEq] at he
    obtain ⟨rfl,_,_,rfl,rfl,rfl,rfl,rfl,rfl,_,rfl,rfl,rfl,rfl,rfl,rfl,rfl,rfl,rfl,rfl,_⟩:=he
    obtain rfl:=nb rfl
    obtain rfl:=np rfl
    obtain rfl:=ny rfl
    obtain rfl:=nr rfl
    obtain ⟨A1,k1,rfl,_⟩:=id ho1
    obtain ⟨A2,k2,rfl,_⟩:=id ho2
    exact sZ (o:=op) (tgt1 ht)
  rw [if_neg h6] at hk
  by_cases h7:s.kind=7
  · rw [if_pos h7] at hk
    simp only [Bool.and_eq_true,decide_eq_true_eq] at hk
    obtain ⟨he,hx,ht⟩:=hk
    obtain ⟨kind,x,y,z,n,i,j,b,last,op,c0,c1,c2,c3,rule,p,ys,cond,name,thn,els⟩:=s
    dsimp only at *
    simp only [Bg,Bm.mk.injEq] at he
    obtain ⟨rfl,_,_,rfl,rfl,rfl,rfl,rfl,rfl,rfl,_,_,_,_,rfl,rfl,rfl,rfl,rfl,rfl,rfl⟩:=he
    obtain rfl:=nb rfl
    obtain rfl:=no rfl
    obtain rfl:=nn rfl
    obtain rfl:=np rfl
    obtain rfl:=ny rfl
    obtain rfl:=nr rfl
    exact yF (tgt1 ht)
  rw [if_neg h7] at hk
  by_cases h8:s.kind=8
  · rw [if_pos h8] at hk
    simp only [Bool.and_eq_true,decide_eq_true_eq] at hk
    obtain ⟨he,hx,hl,hn,hq⟩:=hk
    obtain ⟨kind,x,y,z,n,i,j,b,last,op,c0,c1,c2,c3,rule,p,ys,cond,name,thn,els⟩:=s
    dsimp only at *
    simp only [Bg,Bm.mk.injEq] at he
    obtain ⟨rfl,_,rfl,rfl,_,rfl,rfl,rfl,rfl,rfl,rfl,rfl,rfl,rfl,_,rfl,rfl,rfl,rfl,rfl,_⟩:=he
    obtain rfl:=nb rfl
    obtain rfl:=no rfl
    obtain rfl:=nn rfl
    obtain rfl:=np rfl
    obtain rfl:=ny rfl
    obtain rfl:=nr rfl
    exact yG (q:=rule) (by have h:=of_decide_eq_true (show decide (0≤n∧n≤3)=true from hn);omega)
  rw [if_neg h8] at hk
  by_cases h9:s.kind=9
  · rw [if_pos h9] at hk
    simp only [Bool.and_eq_true,decide_eq_true_eq] at hk
    obtain ⟨he,hx,hl,hyl,ht,hpp⟩:=hk
    obtain ⟨kind,x,y,z,n,i,j,b,last,op,c0,c1,c2,c3,rule,p,ys,cond,name,thn,els⟩:=s
    dsimp only at *
    simp only [Bg,Bm.mk.injEq] at he
    obtain ⟨rfl,_,rfl,rfl,rfl,rfl,rfl,rfl,rfl,rfl,rfl,rfl,rfl,rfl,rfl,_,_,rfl,rfl,rfl,_⟩:=he
    obtain rfl:=nb rfl
    obtain rfl:=no rfl
    obtain rfl:=nn rfl
    obtain rfl:=nr rfl
    split at hpp
    · rename_i p0 p1
      obtain ⟨Ap,cp,rfl⟩:∃ A c,vp=.slice A 2 c:=Be.slice hp
      obtain ⟨Ay,cy,rfl,_⟩:=id hy
      exact yH hy (tgtA ht) oM
    · cases hpp
  rw [if_neg h9] at hk
  by_cases h10:s.kind=10
  · rw [if_pos h10] at hk
    simp only [Bool.and_eq_true,Bool.or_eq_true,decide_eq_true_eq] at hk
    obtain ⟨he,hl,ht,hcc⟩:=hk
    obtain ⟨kind,x,y,z,n,i,j,b,last,op,c0,c1,c2,c3,rule,p,ys,cond,name,thn,els⟩:=s
    dsimp only at *
    simp only [Bg,Bm.mk.injEq] at he
    obtain ⟨rfl,rfl,rfl,rfl,rfl,rfl,rfl,rfl,rfl,rfl,rfl,rfl,rfl,rfl,rfl,rfl,rfl,_,rfl,_,_⟩:=he
    obtain rfl:=nb rfl
    obtain rfl:=no rfl
    obtain rfl:=nn rfl
    obtain rfl:=np rfl
    obtain rfl:=ny rfl
    obtain ⟨ck,cg,cx,cy,cn,cc,cr⟩:=cond
    dsimp only at *
    rcases hcc with ⟨hc,hsm⟩ | ⟨hc,h0,hkk⟩
    · simp only [Nc.mk.injEq] at hc
      obtain ⟨rfl,_,rfl,rfl,rfl,rfl,_⟩:=hc
      have hl2:cr.length=2:=by rcases hsm with rfl | rfl | rfl<;>rfl
      obtain ⟨c,rfl⟩:∃ c,cr=Dy c:=by rcases hsm with rfl | rfl | rfl<;>exact ⟨_,rfl⟩
      obtain ⟨Ar,kr,rfl⟩:∃ A c,vr=.slice A 2 c:=Be.slice hr
      exact mO (c:=c)
    · simp only [Nc.mk.injEq] at hc
      obtain ⟨rfl,_,rfl,rfl,rfl,_,rfl⟩:=hc
      obtain rfl:=nr rfl
      exact mP
  rw [if_neg h10] at hk
  by_cases h11:s.kind=11
  · rw [if_pos h11] at hk
    simp only [Bool.and_eq_true,decide_eq_true_eq] at hk
    obtain ⟨he,ht,hi,hj⟩:=hk
    obtain ⟨kind,x,y,z,n,i,j,b,last,op,c0,c1,c2,c3,rule,p,ys,cond,name,thn,els⟩:=s
    dsimp only at *
    simp only [Bg,Bm.mk.injEq] at he
    obtain ⟨rfl,rfl,rfl,rfl,rfl,_,_,rfl,rfl,rfl,rfl,rfl,rfl,rfl,rfl,rfl,rfl,rfl,rfl,_,rfl⟩:=he
    obtain rfl:=nb rfl
    obtain rfl:=no rfl
    obtain rfl:=nn rfl
    obtain rfl:=np rfl
    obtain rfl:=ny rfl
    obtain rfl:=nr rfl
    exact sT
  rw [if_neg h11] at hk
  by_cases h12:s.kind=12
  · rw [if_pos h12] at hk
    simp only [Bool.and_eq_true,decide_eq_true_eq] at hk
    have he:=hk
    obtain ⟨kind,x,y,z,n,i,j,b,last,op,c0,c1,c2,c3,rule,p,ys,cond,name,thn,els⟩:=s
    dsimp only at *
    simp only [Bg,Bm.mk.injEq] at he
    obtain ⟨rfl,rfl,rfl,rfl,rfl,rfl,rfl,rfl,rfl,rfl,rfl,rfl,rfl,rfl,rfl,rfl,rfl,rfl,rfl,rfl,rfl⟩:=he
    obtain rfl:=nb rfl
    obtain rfl:=no rfl
    obtain rfl:=nn rfl
    obtain rfl:=np rfl
    obtain rfl:=ny rfl
    obtain rfl:=nr rfl
    exact sU
  rw [if_neg h12] at hk
  by_cases h13:s.kind=13
  · rw [if_pos h13] at hk
    simp only [Bool.and_eq_true,decide_eq_true_eq] at hk
    obtain ⟨he,hx,hnm⟩:=hk
    obtain ⟨kind,x,y,z,n,i,j,b,last,op,c0,c1,c2,c3,rule,p,ys,cond,name,thn,els⟩:=s
    dsimp only at *
    simp only [Bg,Bm.mk.injEq] at he
    obtain ⟨rfl,_,rfl,rfl,rfl,rfl,rfl,rfl,rfl,rfl,rfl,rfl,rfl,rfl,rfl,rfl,rfl,rfl,_,rfl,rfl⟩:=he
    obtain rfl:=nb rfl
    obtain rfl:=no rfl
    obtain rfl:=nn rfl
    obtain rfl:=np rfl
    obtain rfl:=ny rfl
    obtain rfl:=nr rfl
    split at hnm
    · rename_i b0
      exact sV
    · cases hnm
  rw [if_neg h13] at hk
  by_cases h14:s.kind=14
  · rw [if_pos h14] at hk
    simp only [Bool.and_eq_true,decide_eq_true_eq] at hk
    obtain ⟨he,hi⟩:=hk
    obtain ⟨kind,x,y,z,n,i,j,b,last,op,c0,c1,c2,c3,rule,p,ys,cond,name,thn,els⟩:=s
    dsimp only at *
    simp only [Bg,Bm.mk.injEq] at he
    obtain ⟨rfl,rfl,rfl,rfl,rfl,_,rfl,rfl,rfl,rfl,rfl,rfl,rfl,rfl,rfl,rfl,rfl,rfl,rfl,rfl,rfl⟩:=he
    obtain rfl:=nb rfl
    obtain rfl:=no rfl
    obtain rfl:=nn rfl
    obtain rfl:=np rfl
    obtain rfl:=ny rfl
    obtain rfl:=nr rfl
    exact sW
  rw [if_neg h14] at hk
  cases hk
def Uq (p:By) (rec:Int→Option Int) (n:Option Int) (i:Nat):Option Int :=
  n.bind fun n=>(p.stmts[i]?).bind fun s=>(rec s.thn).bind fun t=>(rec s.els).bind fun o =>
    some (min (if s.kind=10 then n+(1+max t o) else if s.kind=11 then n+(1+s.i*t) else n+(1+o)) 1099511627776)
def Le (p:By):Nat→Int→Option Int
  | 0,_=>none
  | f+1,b=>if b<0 then some 0 else (p.blocks[b.toNat]?).bind fun l=>l.foldl (Uq p (Le p f)) (some 0)
theorem aR {p:By} {rec:Int→Option Int} (l:List Nat):l.foldl (Uq p rec) none=none:=by
  induction l with
  | nil=>rfl
  | cons a l ih=>rw [List.foldl_cons];exact ih
theorem yM {p:By} {rec:Int→Option Int} {i:Nat} {l:List Nat} {n z:Int} (h:(i::l).foldl (Uq p rec) (some n)=some z):∃ s t o,p.stmts[i]?=some s∧rec s.thn=some t∧rec s.els=some o ∧
    l.foldl (Uq p rec) (some (min (if s.kind=10 then n+(1+max t o) else if s.kind=11 then n+(1+s.i*t) else n+(1+o)) 1099511627776))=some z:=by
  rw [List.foldl_cons] at h
  cases hs:p.stmts[i]? with
  | none=>rw [show Uq p rec (some n) i=none by simp [Uq,hs],aR] at h;cases h
  | some s =>
    cases ht:rec s.thn with
    | none=>rw [show Uq p rec (some n) i=none by simp [Uq,hs,ht],aR] at h;cases h
    | some t =>
      cases ho:rec s.els with
      | none=>rw [show Uq p rec (some n) i=none by simp [Uq,hs,ht,ho],aR] at h;cases h
      | some o=>exact ⟨s,t,o,rfl,ht,ho,by simpa [Uq,hs,ht,ho] using h⟩
theorem Ok {s:Bm} (h:bP s=true) (hk:s.kind=11):1≤s.i∧s.i≤8:=by
  unfold bP at h
  rw [if_neg oM,if_neg oM,if_neg oM,if_neg oM,if_neg oM,if_neg oM,if_neg oM,if_neg oM,if_pos hk] at h
  simp only [Bool.and_eq_true] at h
  exact of_decide_eq_true (show decide (1≤s.i∧s.i≤8)=true from h.2.2.1)
theorem Su {a t:Int} (h1:1≤a∧a≤8) (h2:0≤t∧t≤1099511627776):0≤a*t∧a*t≤8796093022208:=by
  constructor
  · exact Int.mul_nonneg oM h2.1
  · calc a*t≤8*t:=Int.mul_le_mul_of_nonneg_right h1.2 h2.1
      _≤8*1099511627776:=Int.mul_le_mul_of_nonneg_left h2.2 dC
theorem jJ {p:By} {rec:Int→Option Int} (hst:∀ s∈p.stmts,bP s=true) (hr:∀ b z,rec b=some z→0≤z∧z≤1099511627776):∀ (l:List Nat) (n z:Int),0≤n∧n≤1099511627776→l.foldl (Uq p rec) (some n)=some z→0≤z∧z≤1099511627776
  | [],n,z,hn,h=>by injection h with h;omega
  | i::l,n,z,hn,h=>by
    obtain ⟨s,t,o,hs,ht,ho,h⟩:=yM h
    have h1:=hr _ _ ht
    have h2:=hr _ _ ho
    refine jJ hst hr l _ z ?_ h
    have h3:s.kind=11→0≤s.i*t∧s.i*t≤8796093022208:=fun hk=>Su (Ok (hst s (List.mem_of_getElem? hs)) hk) h1
    split
    · omega
    · split
      · rename_i hk;have:=h3 hk;omega
      · omega
theorem fC {p:By} (hst:∀ s∈p.stmts,bP s=true):∀ (f:Nat) (b z:Int),Le p f b=some z→0≤z∧z≤1099511627776
  | 0,_,_,h=>by cases h
  | f+1,b,z,h=>by
    rw [Le] at h
    split at h
    · injection h with h;omega
    · obtain ⟨l,_,h⟩:=Option.bind_eq_some_iff.1 h
      exact jJ hst (fun b z=>fC hst f b z) l 0 z oM h
theorem Gt.at0 {G:Ghost} {cs:List Value} {s:Bm} (h:Gt G cs s):cs[0]?=some (Vi s.kind)∧cs[5]?=some (Vi s.i):=by
  obtain ⟨vb,vo,vn,vp,vy,vr,rfl,_⟩:=h
  exact ⟨rfl,rfl⟩
def BndC (G:Ghost) (p:By) (v:Value) (f:Nat):Prop:=∀ (G':Ghost) (b z:Int),G.le G'→Le p f b=some z→Ai prog 107 [v,Vi b] G' [] fun r _ H'=>H'=[]∧r=Vi z
theorem bnds_ok {G:Ghost} {As Ab:Option Addr} {cs cb f:Nat} {b z:Int} {p:By} (hS:fA G (.slice As p.stmts.length cs) p.stmts) (hB:LN G (.slice Ab p.blocks.length cb) p.blocks) (hst:∀ s∈p.stmts,bP s=true) (hbll:∀ l∈p.blocks,l.length≤1000) (ih:BndC G p (.agg #[.slice As p.stmts.length cs,.slice Ab p.blocks.length cb]) f) (hz:Le p (f+1) b=some z) :
  Ai prog 107 [.agg #[.slice As p.stmts.length cs,.slice Ab p.blocks.length cb],Vi b] G [] fun r _ H'=>H'=[]∧r=Vi z:=by
 refine Ai.of_T [(0,_),(1,_)] func107 rfl ntmps107 sM rfl fun w0 hs=>?_
 have hS0:=hS
 have hB0:=hB
 refine Wt 2 [] hs rfl<|O_s (Sb hs rfl fun b2 _ hs=>Wp 6 [0] hs rfl<|Zy hs (Yc rfl (fun h12=>?_) fun h12=>?_))
 ·
  refine Wp 6 [0,0] hs rfl<|Ah<|Zz results107 rfl ?_
  exact ⟨_,[],hs.done,rfl,by rw [Le,if_pos oM] at hz;injection hz with hz;rw [hz]⟩
 refine Wp 3 [0] hs rfl ?_
 obtain ⟨k,rfl⟩:∃ k:Nat,b=(k:Int):=Int.eq_ofNat_of_zero_le oM
 rw [Le,if_neg oM,Int.toNat_natCast] at hz
 obtain ⟨l0,hl0,hz⟩:=Option.bind_eq_some_iff.1 hz
 obtain ⟨hkB,hl0⟩:=List.getElem?_eq_some_iff.1 hl0
 rw [← hl0] at hz
 refine Wu 10 [0,1,0] hs rfl<|Zy hs (Bv hB k underlying41 sizeOf33 rfl rfl rfl hkB fun p16 c16 hp16 hc16 hR16=>?_)
 obtain ⟨bl,hble⟩:∃ r,r=p.blocks[k]'hkB:=⟨_,rfl⟩
 rw [← hble] at hR16 hz
 have hbll2:bl.length≤1000:=hbll bl Z30
 obtain ⟨u16,rfl,hbl⟩:=hR16
 obtain ⟨Abl,cbl,rfl,_⟩:=id hbl
 refine Zy hs (Yg rfl (hp16 0 (.slice Abl bl.length cbl) rfl)<|Wp 3 [0] hs rfl<|Zl [2,5,17,18,19] (fun m E w=>∃ (j:Nat) (n:Int) (G2:Ghost),j≤bl.length∧(0≤n∧n≤1099511627776)∧(bl.drop j).foldl (Uq p (Le p f)) (some n)=some z∧fA G2 (.slice As p.stmts.length cs) p.stmts∧LN G2 (.slice Ab p.blocks.length cb) p.blocks∧Cr G2 (.slice Abl bl.length cbl) bl∧m=bl.length-j∧E=⟨[],[(2,Vp b2),(5,Vi n),(17,.slice Abl bl.length cbl),(18,Vi ((bl.length:Nat):Int)),(19,Vi (j:Int))]⟩∧St ⟨w0,G,Bl []⟩ G2 [.blk b2 102 [.slice As p.stmts.length cs,.slice Ab p.blocks.length cb]] w) rfl (⟨0,0,_,by omega,by omega,hz,hS,hB,hbl,rfl,rfl,hs⟩) fun m E w hI=>?_)
 obtain ⟨j,n,G2,hj,hn,hfo,hS,hB,hbl,rfl,rfl,hs⟩:=hI
 have hS:=hS0.mono hs.le
 have hB:=hB0.mono hs.le
 refine Wt 2 [] hs rfl<|Zy hs (Yc rfl (fun h20=>?_) fun h20=>?_)
 ·
  refine Wp 8 [0] hs rfl<|Zy hs (Eo hbl j underlying33 sizeOf3 rfl rfl rfl oM fun p21 hp21=>?_)
  obtain ⟨i,hie⟩:∃ q,q=bl[j]'oM:=⟨_,rfl⟩
  rw [← hie] at hp21
  refine Zy hs (Yg rfl (hp21)<|Wp 5 [0,0] hs rfl ?_)
  rw [List.drop_eq_getElem_cons oM,← hie] at hfo
  obtain ⟨sm,tb,ob,hsm,ht,ho,hfo2⟩:=yM hfo
  have hiS:i<p.stmts.length:=(List.getElem?_eq_some_iff.1 hsm).1
  have hsi:p.stmts[i]=sm:=(List.getElem?_eq_some_iff.1 hsm).2
  have hok:bP sm=true:=hst sm (List.mem_of_getElem? hsm)
  have hrt:=fC hst _ _ _ ht
  have hro:=fC hst _ _ _ ho
  refine Wp 2 [0] hs rfl<|Zy hs (Bv hS i underlying100 sizeOf137 rfl rfl rfl hiS fun p26 c26 hp26 hc26 hR26=>?_)
  rw [hsi] at hR26
  refine Zy hs (Cu (vs:=c26) isAgg137 sizeOf137 rfl hp26 hR26.len<|O_s (Sa hs zeroValue137 rfl fun b8 _ hs=>O_n (Sw hs rfl (vs:=c26) hR26.len rfl hR26.one fun _ hs=>Wp 2 [0] hs rfl<|Bc [0,1,2,3,4,5,6,7,8,9] hs kR ?_)))
  replace hs:=hs.drew
  refine Xr [0,1] [1,31] hs rfl<|Xt 2 hs rfl (Db 0 isAgg3 rfl rfl (hR26.at_.1)<|Xr [4,5] [1,32] hs rfl<|Xt 6 hs rfl (Db 0 isAgg3 rfl rfl (hR26.at_.2) ?_))
  have hle:=hs.le
  refine Xo 3 rfl (Sc (ih _ _ _ hs.le ht) hs rfl fun v1 G' H' _ hR hG31 hs=>?_)
  obtain ⟨rfl,rfl⟩:=hR
  replace hs:=hs.n rfl
  replace hS:=hS.mono hG31
  replace hB:=hB.mono hG31
  replace hbl:=hbl.mono hG31
  replace hR26:=hR26.mono hG31
  refine Am hs hle hG31 (lSr _) ?_
  have hle:=hs.le
  refine Xo 7 rfl (Sc (ih _ _ _ hs.le ho) hs rfl fun v2 G' H' _ hR hG35 hs=>?_)
  obtain ⟨rfl,rfl⟩:=hR
  replace hs:=hs.n rfl
  replace hS:=hS.mono hG35
  replace hB:=hB.mono hG35
  replace hbl:=hbl.mono hG35
  replace hR26:=hR26.mono hG35
  refine Am hs hle hG35 (lSr _)<|Xr [8,9] [] hs rfl<|Xe (Zk [2,5,8,9,10,17,18,19] rfl<|Wu 4 [0] hs rfl<|Zy hs (Db 0 isAgg3 rfl rfl (hR26.at0.1)<|Wp 4 [0] hs rfl<|Zy hs (Yc rfl (fun h43=>?_) fun h43=>?_)))
  ·
   refine Wp 7 [0] hs rfl<|Zy hs (Y_max (c:=max tb ob) rfl rfl oM<|Zy hs (Ya (s:=1+max tb ob) rfl<|Zy hs (Ya (s:=n+(1+max tb ob)) rfl<|Wp 4 [0] hs rfl<|Zy hs (nN (c:=min (n+(1+max tb ob)) 1099511627776) rfl rfl oM<|Wp 3 [0] hs rfl<|Zy hs (Ya (s:=((j+1:Nat):Int)) rfl<|Wp 1 [] hs rfl ?_)))))
   have hs:=hs.f1
   rw [if_pos h43] at hfo2
   refine Zx [2,5,17,18,19] rfl ⟨j+1,_,_,by omega,by omega,hfo2,hS,hB,hbl,rfl,rfl,hs.weak hs.le (gLr _) (lSa [_] _)⟩
  refine Wp 5 [0] hs rfl<|Zy hs (Yc rfl (fun h51=>?_) fun h51=>?_)
  ·
   refine Wp 6 [0,5] hs rfl<|Zy hs (Db 0 isAgg3 rfl rfl (hR26.at0.2)<|Wp 1 [] hs rfl<|Zy hs (Xh (c:=sm.i*tb) rfl rfl (rfl) (by have:=Su (Ok hok h51) hrt;omega)<|Zy hs (Eb (c:=1+sm.i*tb) rfl rfl oM (by have:=Su (Ok hok h51) hrt;omega)<|Zy hs (Eb (c:=n+(1+sm.i*tb)) rfl rfl oM (by have:=Su (Ok hok h51) hrt;omega)<|Wp 4 [0] hs rfl<|Zy hs (nN (c:=min (n+(1+sm.i*tb)) 1099511627776) rfl rfl oM<|Wp 3 [5,2,5,17,18,19] hs rfl<|Zy hs (Ya (s:=((j+1:Nat):Int)) rfl<|Wp 1 [] hs rfl ?_))))))
   have hs:=hs.f1
   rw [if_neg h43,if_pos h51] at hfo2
   have hml:=Su (Ok hok h51) hrt
   refine Zx [2,5,17,18,19] rfl ⟨j+1,_,_,by omega,by omega,hfo2,hS,hB,hbl,rfl,rfl,hs.weak hs.le (gLr _) (lSa [_] _)⟩
  refine Wp 6 [0] hs rfl<|Zy hs (Ya (s:=1+ob) rfl<|Zy hs (Ya (s:=n+(1+ob)) rfl<|Wp 4 [0] hs rfl<|Zy hs (nN (c:=min (n+(1+ob)) 1099511627776) rfl rfl oM<|Wp 3 [0] hs rfl<|Zy hs (Ya (s:=((j+1:Nat):Int)) rfl<|Wp 1 [] hs rfl ?_))))
  have hs:=hs.f1
  rw [if_neg h43,if_neg h51] at hfo2
  refine Zx [2,5,17,18,19] rfl ⟨j+1,_,_,by omega,by omega,hfo2,hS,hB,hbl,rfl,rfl,hs.weak hs.le (gLr _) (lSa [_] _)⟩
 refine Wp 4 [0] hs rfl<|Wu 5 [0] hs rfl<|Ah<|Zz results107 rfl ?_
 obtain rfl:j=bl.length:=by omega
 rw [List.drop_length] at hfo
 exact ⟨_,[],hs.done,rfl,by injection hfo with hfo;rw [hfo]⟩
theorem pG {G:Ghost} {As Ab:Option Addr} {cs cb:Nat} {p:By} (hS:fA G (.slice As p.stmts.length cs) p.stmts) (hB:LN G (.slice Ab p.blocks.length cb) p.blocks) (hst:∀ s∈p.stmts,bP s=true) (hbll:∀ l∈p.blocks,l.length≤1000):∀ f,BndC G p (.agg #[.slice As p.stmts.length cs,.slice Ab p.blocks.length cb]) f
  | 0,_,_,_,_,h=>by cases h
  | f+1,_,_,_,hG,h=>bnds_ok (hS.mono hG) (hB.mono hG) hst hbll (fun G'' b z hG' hb=>pG hS hB hst hbll f G'' b z (hG.trans hG') hb) h
def Qt (rec:Int→Jz×Option Bool→Option (Jz×Option Bool)) (s:Bm) (st:Jz×Option Bool):Option (Jz×Option Bool) :=
  if s.kind=10 then (rec s.thn st).bind fun a=>(rec s.els (st.1,a.2)).bind fun b=>some (Og a.1 b.1,b.2)
  else if s.kind=11 then (rec s.thn (st.1,some false)).bind fun a=>some (⟨a.2.getD false,st.1.set⟩,st.2)
  else if s.kind=12 then some (⟨false,bZ⟩,if st.1.live=true then st.2.map fun _=>true else st.2)
  else if s.kind=14 then some (⟨false,bZ⟩,st.2)
  else if s.kind=15 then some (⟨false,bZ⟩,st.2)
  else if (Gd s).2=true then (rec s.els st).bind fun b=>some (Og ⟨st.1.live,Jh st.1.set (Gd s).1⟩ b.1,b.2)
  else (rec s.els (⟨false,st.1.set⟩,st.2)).bind fun b=>some (⟨st.1.live,Jh st.1.set (Gd s).1⟩,b.2)
def Ol (p:By) (rec:Int→Jz×Option Bool→Option (Jz×Option Bool)) (i:Nat) (st:Jz×Option Bool):Option (Jz×Option Bool) :=
  (p.stmts[i]?).bind fun s=>if s.kind=12∧st.2=none then none else if st.1.live=true∧Jh st.1.set (Qp s)≠st.1.set then none else Qt rec s st
def Mm (p:By):Nat→Int→Jz×Option Bool→Option (Jz×Option Bool)
  | 0,_,_=>none
  | f+1,b,st=>if b<0 then some st else (p.blocks[b.toNat]?).bind fun l=>l.foldl (fun o i=>o.bind (Ol p (Mm p f) i)) (some st)
theorem Sv {p:By} {rec:Int→Jz×Option Bool→Option (Jz×Option Bool)} {i:Nat} {st R:Jz×Option Bool} (h:Ol p rec i st=some R):∃ s,p.stmts[i]?=some s∧¬ (s.kind=12∧st.2=none)∧(st.1.live=true→Jh st.1.set (Qp s)=st.1.set)∧Qt rec s st=some R:=by
  unfold Ol at h
  obtain ⟨s,hs,h⟩:=Option.bind_eq_some_iff.1 h
  split at h
  · cases h
  · rename_i h1
    split at h
    · cases h
    · rename_i h2
      exact ⟨s,hs,h1,fun hl=>Classical.not_not.1 fun hn=>h2 ⟨hl,hn⟩,h⟩
section
variable {rec:Int→Jz×Option Bool→Option (Jz×Option Bool)} {s:Bm} {st R:Jz×Option Bool}
theorem Wk (hk:s.kind=10) (h:Qt rec s st=some R):∃ a b,rec s.thn st=some a∧rec s.els (st.1,a.2)=some b∧R=(Og a.1 b.1,b.2):=by
  unfold Qt at h;rw [if_pos hk] at h
  obtain ⟨a,ha,h⟩:=Option.bind_eq_some_iff.1 h
  obtain ⟨b,hb,h⟩:=Option.bind_eq_some_iff.1 h
  injection h with h;exact ⟨a,b,ha,hb,h.symm⟩
theorem Wl (h0:¬ s.kind=10) (hk:s.kind=11) (h:Qt rec s st=some R):∃ a,rec s.thn (st.1,some false)=some a∧R=(⟨a.2.getD false,st.1.set⟩,st.2):=by
  unfold Qt at h;rw [if_neg h0,if_pos hk] at h
  obtain ⟨a,ha,h⟩:=Option.bind_eq_some_iff.1 h
  injection h with h;exact ⟨a,ha,h.symm⟩
theorem fD (h0:¬ s.kind=10) (h1:¬ s.kind=11) (hk:s.kind=12) (h:Qt rec s st=some R):R=(⟨false,bZ⟩,if st.1.live=true then st.2.map fun _=>true else st.2):=by
  unfold Qt at h;rw [if_neg h0,if_neg h1,if_pos hk] at h;injection h with h;exact h.symm
theorem Mn (h0:¬ s.kind=10) (h1:¬ s.kind=11) (h2:¬ s.kind=12) (hk:s.kind=14∨s.kind=15) (h:Qt rec s st=some R):R=(⟨false,bZ⟩,st.2):=by
  unfold Qt at h;rw [if_neg h0,if_neg h1,if_neg h2] at h
  rcases hk with hk | hk
  · rw [if_pos hk] at h;injection h with h;exact h.symm
  · rw [if_neg oM,if_pos hk] at h;injection h with h;exact h.symm
theorem Qu (h0:¬ s.kind=10) (h1:¬ s.kind=11) (h2:¬ s.kind=12) (h3:¬ s.kind=14) (h4:¬ s.kind=15) (hf:(Gd s).2=true) (h:Qt rec s st=some R):∃ b,rec s.els st=some b∧R=(Og ⟨st.1.live,Jh st.1.set (Gd s).1⟩ b.1,b.2):=by
  unfold Qt at h;rw [if_neg h0,if_neg h1,if_neg h2,if_neg h3,if_neg h4,if_pos hf] at h
  obtain ⟨a,ha,h⟩:=Option.bind_eq_some_iff.1 h
  injection h with h;exact ⟨a,ha,h.symm⟩
theorem Qv (h0:¬ s.kind=10) (h1:¬ s.kind=11) (h2:¬ s.kind=12) (h3:¬ s.kind=14) (h4:¬ s.kind=15) (hf:(Gd s).2=false) (h:Qt rec s st=some R):∃ b,rec s.els (⟨false,st.1.set⟩,st.2)=some b∧R=(⟨st.1.live,Jh st.1.set (Gd s).1⟩,b.2):=by
  unfold Qt at h;rw [if_neg h0,if_neg h1,if_neg h2,if_neg h3,if_neg h4,if_neg (by rw [hf];simp)] at h
  obtain ⟨a,ha,h⟩:=Option.bind_eq_some_iff.1 h
  injection h with h;exact ⟨a,ha,h.symm⟩
end
theorem pH {rec:Int→Jz×Option Bool→Option (Jz×Option Bool)} (hr:∀ b st R,rec b st=some R→R.2.isSome=st.2.isSome) {s:Bm} {st R:Jz×Option Bool} (h:Qt rec s st=some R):R.2.isSome=st.2.isSome:=by
  by_cases h0:s.kind=10
  · obtain ⟨a,b,ha,hb,rfl⟩:=Wk h0 h
    have h1:=hr _ _ _ hb
    have h2:=hr _ _ _ ha
    exact h1.trans h2
  by_cases h1:s.kind=11
  · obtain ⟨a,ha,rfl⟩:=Wl h0 h1 h;rfl
  by_cases h2:s.kind=12
  · rw [fD h0 h1 h2 h]
    show (if st.1.live=true then st.2.map fun _=>true else st.2).isSome=_
    split<;>simp
  by_cases h3:s.kind=14∨s.kind=15
  · rw [Mn h0 h1 h2 h3 h]
  cases hf:(Gd s).2 with
  | true=>obtain ⟨b,hb,rfl⟩:=Qu h0 h1 h2 (fun e=>h3 (.inl e)) (fun e=>h3 (.inr e)) hf h;have h1:=hr _ _ _ hb;exact h1
  | false=>obtain ⟨b,hb,rfl⟩:=Qv h0 h1 h2 (fun e=>h3 (.inl e)) (fun e=>h3 (.inr e)) hf h;have h1:=hr _ _ _ hb;exact h1
theorem tA {p:By} {rec:Int→Jz×Option Bool→Option (Jz×Option Bool)} (l:List Nat):l.foldl (fun o i=>o.bind (Ol p rec i)) none=none:=by
  induction l with
  | nil=>rfl
  | cons a l ih=>rw [List.foldl_cons];exact ih
theorem fE {p:By} {rec:Int→Jz×Option Bool→Option (Jz×Option Bool)} {i:Nat} {l:List Nat} {st R:Jz×Option Bool} (h:(i::l).foldl (fun o i=>o.bind (Ol p rec i)) (some st)=some R):∃ t,Ol p rec i st=some t∧l.foldl (fun o i=>o.bind (Ol p rec i)) (some t)=some R:=by
  rw [List.foldl_cons] at h
  cases ht:Ol p rec i st with
  | none=>rw [show (some st).bind (Ol p rec i)=none from ht,tA] at h;cases h
  | some t=>rw [show (some st).bind (Ol p rec i)=some t from ht] at h;exact ⟨t,rfl,h⟩
theorem pI {p:By} {rec:Int→Jz×Option Bool→Option (Jz×Option Bool)} (hr:∀ b st R,rec b st=some R→R.2.isSome=st.2.isSome):∀ (l:List Nat) (st R:Jz×Option Bool),l.foldl (fun o i=>o.bind (Ol p rec i)) (some st)=some R→R.2.isSome=st.2.isSome
  | [],st,R,h=>by injection h with h;rw [h]
  | i::l,st,R,h=>by
    obtain ⟨t,ht,h⟩:=fE h
    obtain ⟨s,_,_,_,ht⟩:=Sv ht
    exact (pI hr l t R h).trans (pH hr ht)
theorem Dv {p:By}:∀ (f:Nat) (b:Int) (st R:Jz×Option Bool),Mm p f b st=some R→R.2.isSome=st.2.isSome
  | 0,_,_,_,h=>by cases h
  | f+1,b,st,R,h=>by
    rw [Mm] at h
    split at h
    · injection h with h;rw [h]
    · obtain ⟨l,_,h⟩:=Option.bind_eq_some_iff.1 h
      exact pI (fun b st R=>Dv f b st R) l st R h
theorem Ew {a b:Jz} (ha:a.set.length=16) (hb:b.set.length=16):(Og a b).set.length=16:=by
  unfold Og;split
  · exact hb
  · split
    · exact ha
    · exact Pg ha hb
theorem Ey (s:Bm):(Qp s).length=16:=by
  unfold Qp;repeat' split
  all_goals first|exact Iy _ _|rfl
theorem Bh (s:Bm):(Gd s).1.length=16:=by
  unfold Gd;dsimp only
  split
  · exact Iy _ _
  · split
    · exact Iy _ _
    · show (if _ then _ else _:List Bool).length=16
      split<;>(try rw [List.length_set])<;>split<;>simp [bZ]
theorem jK {x:Cx} {W:World→Prop} {E:Env} {K:Value→Prop} {d:Option Tmp} {ty:TypeId} {pos:String} {aft:Array Edge} {g:Option (Nat×Bool)} {o:Operand} {xt yt e:TypeId} {a:Addr} (hp:x.P.underlying xt=some (.pointer e)) (h1:ev E o=some (.pointer (some a))) (k:K (Vt)):Y x W ⟨d,.binOp .neq xt o (.const (.pointer none)) yt,ty,pos,aft,g⟩ E K :=
  De (v:=Vt) (fun f hf w _=>by
    have h:∀ q:Nat,(Op.equalIn (q+1) xt (.pointer (some a)) (.pointer none)).run x.P w=.ok false w:=fun q=>by simp [Op.equalIn,run_underlying hp]
    have h':(binOp .neq xt (.pointer (some a)) (.pointer none)).run x.P w=.ok (Vt) w:=by
      simp only [binOp]
      simp [Op.equal,Op.maxDepth,h 9999]
    have hc:f.eval (.const (.pointer none))=.pointer none:=rfl
    have hg:(eqGuard .neq xt o (.const (.pointer none)) (.pointer (some a)) (.pointer none)).run x.P w=.ok () w:=rfl
    simp only [execOp,hf.ev h1,hc,Sem.run_bind,hg,Result.andThen_ok,h',Sem.run_pure]) k
theorem Qe:places prog 227=some [(0,1),(1,16)]:=by kernel_rfl
def LfV (bl:Nat):Option Bool→Value
  | none=>.pointer none
  | some _=>.pointer (some ⟨bl,0,none⟩)
def gH (bl:Nat):Option Bool→List Res
  | none=>[]
  | some x=>[.blk bl 4 [.bool x]]
abbrev aT (br n:Nat) (xs:List Bool):Res:=.row 4 1 (Vs br n n) n (xs.map Bb)
def BlkC (G:Ghost) (p:By) (br q1 q6 f:Nat):Prop:=∀ (G':Ghost) (b:Int) (pl:Jz) (lf:Option Bool) (R:Jz×Option Bool) (bl:Nat) (xs:List Bool),G.le G'→Mm p f b (pl,lf)=some R→pl.set.length=16→xs.length=p.stmts.length →
  Ai prog 150 [Vi b,.agg (Fm pl.live pl.set).toArray,LfV bl lf,Vp q1,Vp q6] G' (aT br p.stmts.length xs::gH bl lf) fun r _ H'=>∃ xs',H'=aT br p.stmts.length xs'::gH bl R.2∧xs'.length=p.stmts.length∧r=.agg (Fm R.1.live R.1.set).toArray∧R.1.set.length=16
def StmC (G:Ghost) (p:By) (br q1 q3 q4 q5 f:Nat):Prop:=∀ (G':Ghost) (i:Nat) (pl:Jz) (lf:Option Bool) (R:Jz×Option Bool) (bl:Nat) (xs:List Bool),G.le G'→Ol p (Mm p f) i (pl,lf)=some R→pl.set.length=16→xs.length=p.stmts.length →
  Ai prog 148 [Vi (i:Int),.agg (Fm pl.live pl.set).toArray,LfV bl lf,Vp q1,Vp q3,Vp q4,Vp q5] G' (aT br p.stmts.length xs::gH bl lf) fun r _ H'=>∃ xs',H'=aT br p.stmts.length xs'::gH bl R.2∧xs'.length=p.stmts.length∧r=.agg (Fm R.1.live R.1.set).toArray∧R.1.set.length=16
theorem Ku {o:Option Bool} {p:Option Bool} (h:o.isSome=p.isSome) (hp:p=none):o=none:=by subst hp;cases o with
  | none=>rfl
  | some _=>cases h
theorem Fw {o:Option Bool} {p:Option Bool} {x:Bool} (h:o.isSome=p.isSome) (hp:p=some x):∃ y,o=some y:=by subst hp;cases o with
  | none=>cases h
  | some y=>exact ⟨y,rfl⟩
theorem stmn_ok {G:Ghost} {As Ab:Option Addr} {cs cb br bl q1 q3 q4 q5 q6 f i:Nat} {p:By} {pl:Jz} {R:Jz×Option Bool} {xs:List Bool} (hQ1:Br G q1 [.slice As p.stmts.length cs,.slice Ab p.blocks.length cb]) (hS:fA G (.slice As p.stmts.length cs) p.stmts) (hB:LN G (.slice Ab p.blocks.length cb) p.blocks) (hst:∀ s∈p.stmts,bP s=true) (hbll:∀ l∈p.blocks,l.length≤1000) (hnn:p.stmts.length≤64) (hQ3:Br G q3 [Vs br p.stmts.length p.stmts.length,Vi (-1),Vi 0]) (hQ5:Br G q5 [.func (.func 150) #[] #[Vp q1,Vp q6]]) (ih:BlkC G p br q1 q6 f) (hw:Ol p (Mm p f) i (pl,none)=some R) (hpl:pl.set.length=16) (hx0:xs.length=p.stmts.length) :
  Ai prog 148 [Vi (i:Int),(.agg (Fm pl.live pl.set).toArray),.pointer none,Vp q1,Vp q3,Vp q4,Vp q5] G (aT br p.stmts.length xs::gH bl none) fun r _ H'=>∃ xs',H'=aT br p.stmts.length xs'::gH bl R.2∧xs'.length=p.stmts.length∧r=.agg (Fm R.1.live R.1.set).toArray∧R.1.set.length=16:=by
 obtain ⟨sm,hsm,hk12,hlv,hwt⟩:=Sv hw
 have hiS:i<p.stmts.length:=(List.getElem?_eq_some_iff.1 hsm).1
 have hsi:p.stmts[i]=sm:=(List.getElem?_eq_some_iff.1 hsm).2
 have hok:bP sm=true:=hst sm (List.mem_of_getElem? hsm)
 dsimp only at hk12 hlv
 have h83:¬ sm.kind=12:=fun h=>hk12 ⟨h,rfl⟩
 refine Ai.of_T [(0,_),(1,_),(2,_),(3,_),(4,_),(5,_),(6,_)] func148 rfl ntmps148 sM rfl fun w0 hs=>?_
 have hQ10:=hQ1
 have hQ30:=hQ3
 have hQ50:=hQ5
 have hS0:=hS
 refine Wt 2 [] hs rfl<|O_s (Dw hs rfl (cs:=_) rfl fun b8 _ hs =>O_s (Bd hs zeroValue227 (cs:=(Fm false (List.replicate 16 false))) rfl fun b10 _ hs =>Wp 4 [0,0] hs rfl<|Zy hs (Yg rfl (hQ1 0 _ rfl)<|Wp 1 [] hs rfl<|Zy hs (Bv hS i underlying100 sizeOf137 rfl rfl rfl hiS fun p20 c20 hp20 hc20 hR20=>?_))))
 rw [hsi] at hR20
 refine Zy hs (Cu (vs:=c20) isAgg137 sizeOf137 rfl hp20 hR20.len<|O_s (Sa hs zeroValue137 rfl fun b11 _ hs=>O_n (Sw hs rfl (vs:=c20) hR20.len rfl hR20.one fun _ hs=>Wp 4 [0,0] hs rfl<|Zy hs (Yg rfl (hQ3 0 _ rfl)<|Wp 2 [0] hs rfl<|Zy hs (Db 2 isAgg4 rfl rfl (rfl)<|Zy hs (Bj (i) underlying64 sizeOf4 rfl rfl rfl (hiS)<|O_n (Ct hs.f3 sizeOf4 rfl rfl rfl oM fun _ hs =>Wp 5 [0,0] hs rfl<|Zy hs (Db 1 isAgg3 rfl rfl (hR20.at0.1)<|Zy hs (Di rfl rfl rfl oM<|Wp 5 [8,0,2,5,6,8,10,11,34] hs rfl<|Wd (fun E w=>∃ (xs0:List Bool) (G2:Ghost),xs0.length=p.stmts.length∧Br G2 q5 [.func (.func 150) #[] #[Vp q1,Vp q6]]∧Gt G2 c20 sm∧G.le G2∧E=⟨[],[(2,.pointer none),(6,Vp q5),(8,Vp b8),(10,Vp b10),(11,Vp b11)]⟩∧St ⟨w0,G,Bl (aT br p.stmts.length xs::gH bl none)⟩ G2 [aT br p.stmts.length xs0,.blk b11 137 c20,.blk b10 227 (Fm false (List.replicate 16 false)),.blk b8 227 (Fm pl.live pl.set)] w) ?_ ?_)))))))))
 ·
  refine Wt 2 [] hs rfl<|Bc [0,1,2,3,4,5,6,7,8,9,10,11] hs kR ?_
  replace hs:=hs.drew
  refine Xr [0] [0] hs rfl ?_
  obtain ⟨q39,hq39⟩:∃ q,q=pl.live:=⟨_,rfl⟩
  refine Xt 1 hs rfl (Db 3 isAgg4 rfl rfl (show (Fm pl.live pl.set)[0]?=some (.bool q39) from by rw [hq39];rfl) ?_)
  cases q39
  ·
   refine Xr [2,3,4,5,8,9,6,7,10,11] [] hs rfl<|Xe (Zk [0,2,5,6,8,10,11,49] rfl<|Wu 2 [] hs rfl ?_)
   have hs:=hs.f3.f3.f3.f3
   exact ⟨[(2,_),(6,_),(8,_),(10,_),(11,_)],⟨rfl,rfl,rfl,rfl,rfl,trivial⟩,⟨xs.set i pl.live,_,by rw [List.length_set];exact hx0,hQ5,hR20,hs.le,rfl,Bz hs Z28⟩⟩
  refine Xr [2,3] [1] hs rfl<|Xt 4 hs rfl (Gl 3 isAgg186 sizeOf186 rfl rfl (vs:=(pl.set.map Bb)) (Ek aS) ((List.length_map _).trans aS)<|Xt 5 hs rfl (Yk 1 rfl hR20.len<|Xr [8] [1] hs rfl<|Xt 9 hs rfl (Gl 3 isAgg186 sizeOf186 rfl rfl (vs:=(pl.set.map Bb)) (Ek aS) ((List.length_map _).trans aS) ?_)))
  have hle:=hs.le
  refine Xo 6 rfl (Sc (Wj hR20 hok) hs rfl fun v1 G' H' _ hR hG44 hs=>?_)
  obtain ⟨rfl,rfl⟩:=hR
  replace hs:=hs.n rfl
  replace hQ5:=hQ5.mono hG44
  replace hR20:=hR20.mono hG44
  refine Am hs hle hG44 (lSr _) ?_
  have hle:=hs.le
  refine Xo 7 rfl (Sc (Oj hpl (Ey _)) hs rfl fun v2 G' H' _ hR hG45 hs=>?_)
  obtain ⟨rfl,rfl⟩:=hR
  replace hs:=hs.n rfl
  replace hQ5:=hQ5.mono hG45
  replace hR20:=hR20.mono hG45
  refine Am hs hle hG45 (lSr _)<|Xt 10 hs rfl (Ql underlying186 sizeOf4 isAgg4 underlying4 kR rfl rfl (Bo hpl (Ey _)) hpl (fun h=>absurd (hlv hq39.symm) h) (fun _ =>Xr [11] [] hs rfl<|Xe (Zk [0,2,5,6,8,10,11,49] rfl<|Wu 2 [] hs rfl ?_)))
  have hs:=hs.f3.f3.f3.f3
  exact ⟨[(2,_),(6,_),(8,_),(10,_),(11,_)],⟨rfl,rfl,rfl,rfl,rfl,trivial⟩,⟨xs.set i pl.live,_,by rw [List.length_set];exact hx0,hQ5,hR20,hs.le,rfl,Bz hs Z28⟩⟩
 clear hs
 intro D M L w hL hI
 obtain ⟨xs0,G2,hx0,hQ5,hR20,hGG,hE,hs⟩:=hI
 cases hE
 refine Xb _ hL ?_
 have hQ5:=hQ50.mono hs.le
 refine Wt 4 [0] hs rfl<|Zy hs (Db 1 isAgg3 rfl rfl (hR20.at0.1)<|Wp 4 [0] hs rfl<|Zy hs (Yc rfl (fun h56=>?_) fun h56=>?_))
 ·
  obtain ⟨a,b,hwa,hwb,rfl⟩:=Wk h56 hwt
  have ka:=Dv _ _ _ _ hwa
  obtain ⟨a1,a2⟩:=a
  dsimp only at *
  obtain rfl:=Ku ka rfl
  have kb:=Dv _ _ _ _ hwb
  obtain ⟨b1,b2⟩:=b
  dsimp only at *
  obtain rfl:=Ku kb rfl
  refine Wp 5 [0] hs rfl<|Zy hs (Yg rfl (hQ5 0 _ rfl)<|Wp 1 [31] hs rfl<|Zy hs (Db 1 isAgg3 rfl rfl (hR20.at_.1)<|Zy hs (Yk 3 rfl (Bs aS)<|Wp 1 [] hs rfl<|O_s (Cb (args:=[_,_,_]) (lb:=[_,_]) (H1:=[_]) hs rfl rfl func150 rfl kR (ih _ _ pl _ _ bl _ hs.le hwa bR aS) fun v3 G' H' _ hR hG62 hs=>?_))))
  obtain ⟨xsa,rfl,hxa,rfl,hla⟩:=hR
  replace hs:=hs.n rfl
  replace hQ5:=hQ5.mono hG62
  replace hR20:=hR20.mono hG62
  refine O_s (Bd hs zeroValue227 (cs:=(Fm false (List.replicate 16 false))) rfl fun b12 _ hs =>O_n (Sw hs rfl Z0 Z0 (Ci _ _) fun _ hs=>Wp 1 [0] hs rfl ?_))
  have hs:=hs.f1
  have hsW:=hs.drop
  refine Wu 1 [] hs rfl<|Bc [0,1,2,3,4,5,6,7] hsW kR ?_
  replace hs:=hs.drew
  replace hsW:=hsW.drew
  refine Xt 0 hsW rfl (Yk 0 rfl (Bs aS)<|Xt 1 hsW rfl (Yg rfl (hQ5 0 _ rfl)<|Xr [2] [32] hsW rfl<|Xt 3 hsW rfl (Db 1 isAgg3 rfl rfl (hR20.at_.2)<|Xt 4 hsW rfl (Yk 3 rfl (Bs aS)<|Xr [5] [] hsW rfl ?_))))
  have hle:=hs.le
  refine Xo 6 rfl (Cb (args:=[_,_,_]) (lb:=[_,_]) (H1:=[_]) hs rfl rfl func150 rfl kR (ih _ _ pl _ _ bl _ hs.le hwb bR aS) fun v4 G' H' _ hR hG69 hs=>?_)
  obtain ⟨xsb,rfl,hxb,rfl,hlb⟩:=hR
  replace hs:=hs.n rfl
  have hsW:=hs.drop
  refine Am hsW hle hG69 (lSr _) ?_
  have hle:=hs.le
  refine Xo 7 rfl (Sc (Jt (la:=a1.live) (sa:=a1.set) (lb:=b1.live) (sb:=b1.set) hla hlb) hs rfl fun v5 G' H' _ hR hG70 hs=>?_)
  obtain ⟨rfl,rfl⟩:=hR
  replace hs:=hs.n rfl
  have hsW:=hs.drop
  refine Am hsW hle hG70 (lSr _)<|Xn 8 rfl (Sw hs.f3 rfl Z0 Z0 (Ci _ _) fun _ hs=>Xe (Zk [10] rfl<|Ah ?_))
  have hs:=hs.f1
  refine Zz results148 (Rb 1 hs rfl Z0) ?_
  exact ⟨_,_,hs.weak hs.le (gLr _) (lSa [_] _),_,rfl,hxb,rfl,Ew hla hlb⟩
 refine Wp 5 [0] hs rfl<|Zy hs (Yc rfl (fun h72=>?_) fun h72=>?_)
 ·
  obtain ⟨a,hwa,rfl⟩:=Wl h56 h72 hwt
  have ka:=Dv _ _ _ _ hwa
  obtain ⟨a1,a2⟩:=a
  dsimp only at *
  obtain ⟨ya,rfl⟩:=Fw ka rfl
  refine Wp 5 [0] hs rfl<|O_s (Sa hs zeroValue4 rfl fun b13 _ hs=>O_n (Sd hs rfl rfl fun _ hs=>Wp 3 [0] hs rfl<|Zy hs (Yg rfl (hQ5 0 _ rfl)<|Wp 1 [31] hs rfl<|Zy hs (Db 2 isAgg3 rfl rfl (hR20.at_.1)<|Zy hs (Yk 4 rfl (Bs aS)<|O_s (Cb (args:=[_,_,_]) (lb:=[_,_]) (H1:=[_,_]) hs.f1 rfl rfl func150 rfl kR (ih _ _ pl _ _ b13 _ hs.f1.le hwa bR aS) fun v6 G' H' _ hR hG77 hs=>?_))))))
  obtain ⟨xsa,rfl,hxa,rfl,hla⟩:=hR
  replace hs:=hs.n rfl
  refine Wp 5 [0,1,1] hs rfl<|Zy hs (Gl 4 isAgg186 sizeOf186 rfl rfl (vs:=(pl.set.map Bb)) (Ek aS) ((List.length_map _).trans aS)<|Zy hs (Ba (zs:=Fm false (List.replicate 16 false)) zeroValue227 kR (pl:=[(0,1),(1,16)]) kR rfl (cs:=Fm ya pl.set) (Fk aS)<|O_n (Sw hs.f3 rfl Z0 Z0 (Ci _ _) fun _ hs=>Wp 1 [0] hs rfl<|Ah ?_)))
  have hs:=hs.f1
  refine Zz results148 (Rb 1 hs rfl Z0) ?_
  exact ⟨_,_,hs.weak hs.le (gLr _) (lSa [_] _),_,rfl,hxa,rfl,hpl⟩
 refine Wp 5 [0] hs rfl<|Zy hs (Di rfl rfl rfl oM<|Wp 6 [0] hs rfl<|Zy hs (Yc rfl (fun h94=>?_) fun h94=>?_))
 ·
  obtain rfl:=Mn h56 h72 h83 (.inl h94) hwt
  refine Wp 7 [0] hs rfl<|Zy hs (Ba zeroValue227 rfl Qe rfl (cs:=[_,_,_,_,_,_,_,_,_,_,_,_,_,_,_,_,_]) rfl<|O_n (Sw hs.f2 rfl Z0 Z0 (rfl) fun _ hs=>Wp 1 [0] hs rfl<|Ah ?_))
  have hs:=hs.f1
  refine Zz results148 (Rb 1 hs rfl Z0) ?_
  exact ⟨_,_,hs.weak hs.le (gLr _) (lSa [_] _),_,rfl,hx0,rfl,List.length_replicate⟩
 refine Wp 4 [0] hs rfl<|Zy hs (Yc rfl (fun h95=>?_) fun h95=>?_)
 ·
  obtain rfl:=Mn h56 h72 h83 (.inr h95) hwt
  refine Wp 5 [0] hs rfl<|Zy hs (Ba zeroValue227 rfl Qe rfl (cs:=[_,_,_,_,_,_,_,_,_,_,_,_,_,_,_,_,_]) rfl<|O_n (Sw hs.f2 rfl Z0 Z0 (rfl) fun _ hs=>Wp 1 [0] hs rfl<|Ah ?_))
  have hs:=hs.f1
  refine Zz results148 (Rb 1 hs rfl Z0) ?_
  exact ⟨_,_,hs.weak hs.le (gLr _) (lSa [_] _),_,rfl,hx0,rfl,List.length_replicate⟩
 refine Wp 6 [0] hs rfl<|Zy hs (Yk 1 rfl hR20.len<|O_s (Sc (Ss hR20 hok) hs rfl fun v7 G' H' _ hR hG99 hs=>?_))
 obtain ⟨rfl,rfl⟩:=hR
 replace hs:=hs.n rfl
 replace hQ5:=hQ5.mono hG99
 replace hR20:=hR20.mono hG99
 refine Wp 3 [] hs rfl<|O_s (Bd hs zeroValue186 (cs:=((List.replicate 16 false).map Bb)) rfl fun b14 _ hs =>O_n (Sw hs rfl Z0 Z0 (Bx _) fun _ hs=>Wp 3 [7,2,6,8,10,11,14,15] hs rfl<|Bc [0,1,2,3,4,5,6,7] hs kR ?_))
 replace hs:=hs.drew
 refine Xr [0] [0] hs rfl<|Xt 1 hs rfl (Db 4 isAgg4 rfl rfl (rfl)<|Xr [2] [1] hs rfl<|Xt 3 hs rfl (Gl 4 isAgg186 sizeOf186 rfl rfl (vs:=(pl.set.map Bb)) (Ek aS) ((List.length_map _).trans aS)<|Xt 4 hs rfl (Yk 0 rfl ((List.length_map _).trans (Bh _))<|Kq 5 7 rfl rfl kR rfl rfl ?_ ?_)))
 ·
  have hle:=hs.le
  refine Et (H1:=[]) hs rfl func111 rfl kR (Oj hpl (Bh sm)) fun v8 G' H' _ hR hG107 hs=>?_
  obtain ⟨rfl,rfl⟩:=hR
  replace hs:=hs.n rfl
  replace hQ5:=hQ5.mono hG107
  replace hR20:=hR20.mono hG107
  refine Am hs hle hG107 (lSr _)<|Xt 6 hs rfl (Ba (zs:=Fm false (List.replicate 16 false)) zeroValue227 kR (pl:=[(0,1),(1,16)]) kR rfl (cs:=Fm pl.live (Jh pl.set (Gd sm).1)) (Fk (Bo hpl (Bh _))) ?_)
  have hle:=hs.le
  refine Xo 7 rfl (Bd hs zeroValue227 (cs:=(Fm false (List.replicate 16 false))) rfl fun b16 _ hs =>Am hs hle (gLr _) (List.sublist_cons_self _ _)<|Xn 8 rfl (Sw hs rfl Z0 Z0 (Ci _ _) fun _ hs=>Xe (Zk [2,6,8,10,11,15,16] rfl<|Wu 5 [0] hs rfl<|Fv rfl (fun h109=>?_) (fun h109=>?_))))
  ·
   obtain ⟨b,hwb,rfl⟩:=Qu h56 h72 h83 h94 h95 tU hwt
   have kb:=Dv _ _ _ _ hwb
   obtain ⟨b1,b2⟩:=b
   dsimp only at *
   obtain rfl:=Ku kb rfl
   have hs:=hs.f2
   have hsW:=hs.drop
   refine Wu 1 [] hs rfl<|Bc [0,1,2,3,4,5,6,7] hsW kR ?_
   replace hs:=hs.drew
   replace hsW:=hsW.drew
   refine Xt 0 hsW rfl (Yk 0 rfl (Bs (Bo hpl (Bh _)))<|Xt 1 hsW rfl (Yg rfl (hQ5 0 _ rfl)<|Xr [2] [32] hsW rfl<|Xt 3 hsW rfl (Db 2 isAgg3 rfl rfl (hR20.at_.2)<|Xt 4 hsW rfl (Yk 4 rfl (Bs aS)<|Xr [5] [] hsW rfl ?_))))
   have hle:=hs.le
   refine Xo 6 rfl (Cb (args:=[_,_,_]) (lb:=[_,_]) (H1:=[_]) hs rfl rfl func150 rfl kR (ih _ _ pl _ _ bl _ hs.le hwb bR aS) fun v9 G' H' _ hR hG116 hs=>?_)
   obtain ⟨xsb,rfl,hxb,rfl,hlb⟩:=hR
   replace hs:=hs.n rfl
   have hsW:=hs.drop
   refine Am hsW hle hG116 (lSr _) ?_
   have hle:=hs.le
   refine Xo 7 rfl (Sc (Jt (la:=pl.live) (sa:=Jh pl.set (Gd sm).1) (lb:=b1.live) (sb:=b1.set) (Bo hpl (Bh _)) hlb) hs rfl fun v10 G' H' _ hR hG117 hs=>?_)
   obtain ⟨rfl,rfl⟩:=hR
   replace hs:=hs.n rfl
   have hsW:=hs.drop
   refine Am hsW hle hG117 (lSr _)<|Xn 8 rfl (Sw hs.f4 rfl Z0 Z0 (Ci _ _) fun _ hs=>Xe (Zk [10] rfl<|Ah ?_))
   have hs:=hs.f1
   refine Zz results148 (Rb 1 hs rfl Z0) ?_
   exact ⟨_,_,hs.weak hs.le (gLr _) (lSa [_] _),_,rfl,hxb,rfl,Ew (Bo hpl (Bh _)) hlb⟩
  obtain ⟨b,hwb,rfl⟩:=Qv h56 h72 h83 h94 h95 tU hwt
  have kb:=Dv _ _ _ _ hwb
  obtain ⟨b1,b2⟩:=b
  dsimp only at *
  obtain rfl:=Ku kb rfl
  refine Wu 3 [] hs rfl<|Zy hs (Yg rfl (hQ5 0 _ rfl)<|Wp 1 [32] hs rfl<|Zy hs (Db 3 isAgg3 rfl rfl (hR20.at_.2)<|Wp 1 [1] hs rfl<|Zy hs (Gl 5 isAgg186 sizeOf186 rfl rfl (vs:=(pl.set.map Bb)) (Ek aS) ((List.length_map _).trans aS)<|Zy hs (Ba (zs:=Fm false (List.replicate 16 false)) zeroValue227 kR (pl:=[(0,1),(1,16)]) kR rfl (cs:=Fm false pl.set) (Fk aS)<|Wp 1 [] hs rfl<|O_s (Cb (args:=[_,_,_]) (lb:=[_,_]) (H1:=[_]) hs.f2 rfl rfl func150 rfl kR (ih _ _ ⟨false,pl.set⟩ _ _ bl _ hs.f2.le hwb bR aS) fun v11 G' H' _ hR hG125 hs=>?_)))))
  obtain ⟨xsb,rfl,hxb,rfl,hlb⟩:=hR
  replace hs:=hs.n rfl
  refine Wp 3 [0] hs rfl<|Zy hs (Yk 1 rfl (Bs (Bo hpl (Bh _)))<|O_n (Sw hs.f4 rfl Z0 Z0 (Ci _ _) fun _ hs=>Wp 1 [0] hs rfl<|Ah ?_))
  have hs:=hs.f1
  refine Zz results148 (Rb 1 hs rfl Z0) ?_
  exact ⟨_,_,hs.weak hs.le (gLr _) (lSa [_] _),_,rfl,hxb,rfl,Bo hpl (Bh _)⟩
 have hle:=hs.le
 refine Bd hs zeroValue227 (cs:=(Fm false (List.replicate 16 false))) rfl fun b16 _ hs =>Am hs hle (gLr _) (List.sublist_cons_self _ _) ?_
 have hle:=hs.le
 refine Xo 5 rfl (Sc (Oj hpl (Bh sm)) hs rfl fun v12 G' H' _ hR hG107 hs=>?_)
 obtain ⟨rfl,rfl⟩:=hR
 replace hs:=hs.n rfl
 replace hQ5:=hQ5.mono hG107
 replace hR20:=hR20.mono hG107
 refine Am hs hle hG107 (lSr _)<|Xt 6 hs rfl (Ba (zs:=Fm false (List.replicate 16 false)) zeroValue227 kR (pl:=[(0,1),(1,16)]) kR rfl (cs:=Fm pl.live (Jh pl.set (Gd sm).1)) (Fk (Bo hpl (Bh _)))<|Xn 8 rfl (Sw hs rfl Z0 Z0 (Ci _ _) fun _ hs=>Xe (Zk [2,6,8,10,11,15,16] rfl<|Wu 5 [0] hs rfl<|Fv rfl (fun h109=>?_) (fun h109=>?_))))
 ·
  obtain ⟨b,hwb,rfl⟩:=Qu h56 h72 h83 h94 h95 tU hwt
  have kb:=Dv _ _ _ _ hwb
  obtain ⟨b1,b2⟩:=b
  dsimp only at *
  obtain rfl:=Ku kb rfl
  have hs:=hs.f2
  have hsW:=hs.drop
  refine Wu 1 [] hs rfl<|Bc [0,1,2,3,4,5,6,7] hsW kR ?_
  replace hs:=hs.drew
  replace hsW:=hsW.drew
  refine Xt 0 hsW rfl (Yk 0 rfl (Bs (Bo hpl (Bh _)))<|Xt 1 hsW rfl (Yg rfl (hQ5 0 _ rfl)<|Xr [2] [32] hsW rfl<|Xt 3 hsW rfl (Db 2 isAgg3 rfl rfl (hR20.at_.2)<|Xt 4 hsW rfl (Yk 4 rfl (Bs aS)<|Xr [5] [] hsW rfl ?_))))
  have hle:=hs.le
  refine Xo 6 rfl (Cb (args:=[_,_,_]) (lb:=[_,_]) (H1:=[_]) hs rfl rfl func150 rfl kR (ih _ _ pl _ _ bl _ hs.le hwb bR aS) fun v13 G' H' _ hR hG116 hs=>?_)
  obtain ⟨xsb,rfl,hxb,rfl,hlb⟩:=hR
  replace hs:=hs.n rfl
  have hsW:=hs.drop
  refine Am hsW hle hG116 (lSr _) ?_
  have hle:=hs.le
  refine Xo 7 rfl (Sc (Jt (la:=pl.live) (sa:=Jh pl.set (Gd sm).1) (lb:=b1.live) (sb:=b1.set) (Bo hpl (Bh _)) hlb) hs rfl fun v14 G' H' _ hR hG117 hs=>?_)
  obtain ⟨rfl,rfl⟩:=hR
  replace hs:=hs.n rfl
  have hsW:=hs.drop
  refine Am hsW hle hG117 (lSr _)<|Xn 8 rfl (Sw hs.f4 rfl Z0 Z0 (Ci _ _) fun _ hs=>Xe (Zk [10] rfl<|Ah ?_))
  have hs:=hs.f1
  refine Zz results148 (Rb 1 hs rfl Z0) ?_
  exact ⟨_,_,hs.weak hs.le (gLr _) (lSa [_] _),_,rfl,hxb,rfl,Ew (Bo hpl (Bh _)) hlb⟩
 obtain ⟨b,hwb,rfl⟩:=Qv h56 h72 h83 h94 h95 tU hwt
 have kb:=Dv _ _ _ _ hwb
 obtain ⟨b1,b2⟩:=b
 dsimp only at *
 obtain rfl:=Ku kb rfl
 refine Wu 3 [] hs rfl<|Zy hs (Yg rfl (hQ5 0 _ rfl)<|Wp 1 [32] hs rfl<|Zy hs (Db 3 isAgg3 rfl rfl (hR20.at_.2)<|Wp 1 [1] hs rfl<|Zy hs (Gl 5 isAgg186 sizeOf186 rfl rfl (vs:=(pl.set.map Bb)) (Ek aS) ((List.length_map _).trans aS)<|Zy hs (Ba (zs:=Fm false (List.replicate 16 false)) zeroValue227 kR (pl:=[(0,1),(1,16)]) kR rfl (cs:=Fm false pl.set) (Fk aS)<|Wp 1 [] hs rfl<|O_s (Cb (args:=[_,_,_]) (lb:=[_,_]) (H1:=[_]) hs.f2 rfl rfl func150 rfl kR (ih _ _ ⟨false,pl.set⟩ _ _ bl _ hs.f2.le hwb bR aS) fun v15 G' H' _ hR hG125 hs=>?_)))))
 obtain ⟨xsb,rfl,hxb,rfl,hlb⟩:=hR
 replace hs:=hs.n rfl
 refine Wp 3 [0] hs rfl<|Zy hs (Yk 1 rfl (Bs (Bo hpl (Bh _)))<|O_n (Sw hs.f4 rfl Z0 Z0 (Ci _ _) fun _ hs=>Wp 1 [0] hs rfl<|Ah ?_))
 have hs:=hs.f1
 refine Zz results148 (Rb 1 hs rfl Z0) ?_
 exact ⟨_,_,hs.weak hs.le (gLr _) (lSa [_] _),_,rfl,hxb,rfl,Bo hpl (Bh _)⟩
theorem stms_ok {G:Ghost} {As Ab:Option Addr} {cs cb br bl q1 q3 q4 q5 q6 f i:Nat} {x:Bool} {p:By} {pl:Jz} {R:Jz×Option Bool} {xs:List Bool} (hQ1:Br G q1 [.slice As p.stmts.length cs,.slice Ab p.blocks.length cb]) (hS:fA G (.slice As p.stmts.length cs) p.stmts) (hB:LN G (.slice Ab p.blocks.length cb) p.blocks) (hst:∀ s∈p.stmts,bP s=true) (hbll:∀ l∈p.blocks,l.length≤1000) (hnn:p.stmts.length≤64) (hQ3:Br G q3 [Vs br p.stmts.length p.stmts.length,Vi (-1),Vi 0]) (hQ5:Br G q5 [.func (.func 150) #[] #[Vp q1,Vp q6]]) (ih:BlkC G p br q1 q6 f) (hw:Ol p (Mm p f) i (pl,(some x))=some R) (hpl:pl.set.length=16) (hx0:xs.length=p.stmts.length) :
  Ai prog 148 [Vi (i:Int),(.agg (Fm pl.live pl.set).toArray),Vp bl,Vp q1,Vp q3,Vp q4,Vp q5] G (aT br p.stmts.length xs::gH bl (some x)) fun r _ H'=>∃ xs',H'=aT br p.stmts.length xs'::gH bl R.2∧xs'.length=p.stmts.length∧r=.agg (Fm R.1.live R.1.set).toArray∧R.1.set.length=16:=by
 obtain ⟨sm,hsm,hk12,hlv,hwt⟩:=Sv hw
 have hiS:i<p.stmts.length:=(List.getElem?_eq_some_iff.1 hsm).1
 have hsi:p.stmts[i]=sm:=(List.getElem?_eq_some_iff.1 hsm).2
 have hok:bP sm=true:=hst sm (List.mem_of_getElem? hsm)
 dsimp only at hk12 hlv
 refine Ai.of_T [(0,_),(1,_),(2,_),(3,_),(4,_),(5,_),(6,_)] func148 rfl ntmps148 sM rfl fun w0 hs=>?_
 have hQ10:=hQ1
 have hQ30:=hQ3
 have hQ50:=hQ5
 have hS0:=hS
 refine Wt 2 [] hs rfl<|O_s (Dw hs rfl (cs:=_) rfl fun b8 _ hs =>O_s (Bd hs zeroValue227 (cs:=(Fm false (List.replicate 16 false))) rfl fun b10 _ hs =>Wp 4 [0,0] hs rfl<|Zy hs (Yg rfl (hQ1 0 _ rfl)<|Wp 1 [] hs rfl<|Zy hs (Bv hS i underlying100 sizeOf137 rfl rfl rfl hiS fun p20 c20 hp20 hc20 hR20=>?_))))
 rw [hsi] at hR20
 refine Zy hs (Cu (vs:=c20) isAgg137 sizeOf137 rfl hp20 hR20.len<|O_s (Sa hs zeroValue137 rfl fun b11 _ hs=>O_n (Sw hs rfl (vs:=c20) hR20.len rfl hR20.one fun _ hs=>Wp 4 [0,0] hs rfl<|Zy hs (Yg rfl (hQ3 0 _ rfl)<|Wp 2 [0] hs rfl<|Zy hs (Db 2 isAgg4 rfl rfl (rfl)<|Zy hs (Bj (i) underlying64 sizeOf4 rfl rfl rfl (hiS)<|O_n (Ct hs.f3 sizeOf4 rfl rfl rfl oM fun _ hs =>Wp 5 [0,0] hs rfl<|Zy hs (Db 1 isAgg3 rfl rfl (hR20.at0.1)<|Zy hs (Yc rfl (fun h30=>?_) fun h30=>?_)))))))))
 ·
  refine Wp 2 [] hs rfl<|Zg hs rfl (rA underlying228 rfl<|Wp 2 [8,0,2,5,6,8,10,11,34] hs rfl<|Wd (fun E w=>∃ (xs0:List Bool) (G2:Ghost),xs0.length=p.stmts.length∧Br G2 q5 [.func (.func 150) #[] #[Vp q1,Vp q6]]∧Gt G2 c20 sm∧G.le G2∧E=⟨[],[(2,Vp bl),(6,Vp q5),(8,Vp b8),(10,Vp b10),(11,Vp b11)]⟩∧St ⟨w0,G,Bl (aT br p.stmts.length xs::gH bl (some x))⟩ G2 [aT br p.stmts.length xs0,.blk bl 4 [.bool x],.blk b11 137 c20,.blk b10 227 (Fm false (List.replicate 16 false)),.blk b8 227 (Fm pl.live pl.set)] w) ?_ ?_)
  ·
   refine Wt 2 [] hs rfl<|Bc [0,1,2,3,4,5,6,7,8,9,10,11] hs kR ?_
   replace hs:=hs.drew
   refine Xr [0] [0] hs rfl ?_
   obtain ⟨q39,hq39⟩:∃ q,q=pl.live:=⟨_,rfl⟩
   refine Xt 1 hs rfl (Db 3 isAgg4 rfl rfl (show (Fm pl.live pl.set)[0]?=some (.bool q39) from by rw [hq39];rfl) ?_)
   cases q39
   ·
    refine Xr [2,3,4,5,8,9,6,7,10,11] [] hs rfl<|Xe (Zk [0,2,5,6,8,10,11,49] rfl<|Wu 2 [] hs rfl ?_)
    have hs:=hs.f3.f3.f3.f4.f4
    exact ⟨[(2,_),(6,_),(8,_),(10,_),(11,_)],⟨rfl,rfl,rfl,rfl,rfl,trivial⟩,⟨xs.set i pl.live,_,by rw [List.length_set];exact hx0,hQ5,hR20,hs.le,rfl,Bz hs Z28⟩⟩
   refine Xr [2,3] [1] hs rfl<|Xt 4 hs rfl (Gl 3 isAgg186 sizeOf186 rfl rfl (vs:=(pl.set.map Bb)) (Ek aS) ((List.length_map _).trans aS)<|Xt 5 hs rfl (Yk 1 rfl hR20.len<|Xr [8] [1] hs rfl<|Xt 9 hs rfl (Gl 3 isAgg186 sizeOf186 rfl rfl (vs:=(pl.set.map Bb)) (Ek aS) ((List.length_map _).trans aS) ?_)))
   have hle:=hs.le
   refine Xo 6 rfl (Sc (Wj hR20 hok) hs rfl fun v1 G' H' _ hR hG44 hs=>?_)
   obtain ⟨rfl,rfl⟩:=hR
   replace hs:=hs.n rfl
   replace hQ5:=hQ5.mono hG44
   replace hR20:=hR20.mono hG44
   refine Am hs hle hG44 (lSr _) ?_
   have hle:=hs.le
   refine Xo 7 rfl (Sc (Oj hpl (Ey _)) hs rfl fun v2 G' H' _ hR hG45 hs=>?_)
   obtain ⟨rfl,rfl⟩:=hR
   replace hs:=hs.n rfl
   replace hQ5:=hQ5.mono hG45
   replace hR20:=hR20.mono hG45
   refine Am hs hle hG45 (lSr _)<|Xt 10 hs rfl (Ql underlying186 sizeOf4 isAgg4 underlying4 kR rfl rfl (Bo hpl (Ey _)) hpl (fun h=>absurd (hlv hq39.symm) h) (fun _ =>Xr [11] [] hs rfl<|Xe (Zk [0,2,5,6,8,10,11,49] rfl<|Wu 2 [] hs rfl ?_)))
   have hs:=hs.f3.f3.f3.f4.f4
   exact ⟨[(2,_),(6,_),(8,_),(10,_),(11,_)],⟨rfl,rfl,rfl,rfl,rfl,trivial⟩,⟨xs.set i pl.live,_,by rw [List.length_set];exact hx0,hQ5,hR20,hs.le,rfl,Bz hs Z28⟩⟩
  clear hs
  intro D M L w hL hI
  obtain ⟨xs0,G2,hx0,hQ5,hR20,hGG,hE,hs⟩:=hI
  cases hE
  refine Xb _ hL ?_
  have hQ5:=hQ50.mono hs.le
  refine Wt 4 [0] hs rfl<|Zy hs (Db 2 isAgg3 rfl rfl (hR20.at0.1)<|Wp 4 [0] hs rfl<|Zy hs (Yc rfl (fun h56=>?_) fun h56=>?_))
  ·
   obtain ⟨a,b,hwa,hwb,rfl⟩:=Wk h56 hwt
   have ka:=Dv _ _ _ _ hwa
   obtain ⟨a1,a2⟩:=a
   dsimp only at *
   obtain ⟨ya,rfl⟩:=Fw ka rfl
   have kb:=Dv _ _ _ _ hwb
   obtain ⟨b1,b2⟩:=b
   dsimp only at *
   obtain ⟨yb,rfl⟩:=Fw kb rfl
   refine Wp 5 [0] hs rfl<|Zy hs (Yg rfl (hQ5 0 _ rfl)<|Wp 1 [31] hs rfl<|Zy hs (Db 2 isAgg3 rfl rfl (hR20.at_.1)<|Zy hs (Yk 4 rfl (Bs aS)<|Wp 1 [] hs rfl<|O_s (Cb (args:=[_,_,_]) (lb:=[_,_]) (H1:=[_,_]) hs.f1.f1 rfl rfl func150 rfl kR (ih _ _ pl _ _ bl _ hs.f1.f1.le hwa bR aS) fun v3 G' H' _ hR hG62 hs=>?_))))
   obtain ⟨xsa,rfl,hxa,rfl,hla⟩:=hR
   replace hs:=hs.n rfl
   replace hQ5:=hQ5.mono hG62
   replace hR20:=hR20.mono hG62
   refine O_s (Bd hs zeroValue227 (cs:=(Fm false (List.replicate 16 false))) rfl fun b12 _ hs =>O_n (Sw hs rfl Z0 Z0 (Ci _ _) fun _ hs=>Wp 1 [0] hs rfl ?_))
   have hs:=hs.f2.f2
   have hsW:=hs.drop.drop
   refine Wu 1 [] hs rfl<|Bc [0,1,2,3,4,5,6,7] hsW kR ?_
   replace hs:=hs.drew
   replace hsW:=hsW.drew
   refine Xt 0 hsW rfl (Yk 0 rfl (Bs aS)<|Xt 1 hsW rfl (Yg rfl (hQ5 0 _ rfl)<|Xr [2] [32] hsW rfl<|Xt 3 hsW rfl (Db 1 isAgg3 rfl rfl (hR20.at_.2)<|Xt 4 hsW rfl (Yk 3 rfl (Bs aS)<|Xr [5] [] hsW rfl ?_))))
   have hs:=hs.f1.f1
   have hle:=hs.le
   refine Xo 6 rfl (Cb (args:=[_,_,_]) (lb:=[_,_]) (H1:=[_,_]) hs rfl rfl func150 rfl kR (ih _ _ pl _ _ bl _ hs.le hwb bR aS) fun v4 G' H' _ hR hG69 hs=>?_)
   obtain ⟨xsb,rfl,hxb,rfl,hlb⟩:=hR
   replace hs:=hs.n rfl
   have hs:=hs.f1.f1
   have hsW:=hs.drop.drop
   refine Am hsW hle hG69 (lSr _) ?_
   have hle:=hs.le
   refine Xo 7 rfl (Sc (Jt (la:=a1.live) (sa:=a1.set) (lb:=b1.live) (sb:=b1.set) hla hlb) hs rfl fun v5 G' H' _ hR hG70 hs=>?_)
   obtain ⟨rfl,rfl⟩:=hR
   replace hs:=hs.n rfl
   have hs:=hs.f1.f1
   have hsW:=hs.drop.drop
   refine Am hsW hle hG70 (lSr _)<|Xn 8 rfl (Sw hs.f4 rfl Z0 Z0 (Ci _ _) fun _ hs=>Xe (Zk [10] rfl<|Ah ?_))
   have hs:=hs.f2.f2
   refine Zz results148 (Rb 2 hs rfl Z0) ?_
   exact ⟨_,_,hs.weak hs.le (gLr _) (lSa [_,_] _),_,rfl,hxb,rfl,Ew hla hlb⟩
  refine Wp 5 [0] hs rfl<|Zy hs (Yc rfl (fun h72=>?_) fun h72=>?_)
  ·
   obtain ⟨a,hwa,rfl⟩:=Wl h56 h72 hwt
   have ka:=Dv _ _ _ _ hwa
   obtain ⟨a1,a2⟩:=a
   dsimp only at *
   obtain ⟨ya,rfl⟩:=Fw ka rfl
   refine Wp 5 [0] hs rfl<|O_s (Sa hs zeroValue4 rfl fun b13 _ hs=>O_n (Sd hs rfl rfl fun _ hs=>Wp 3 [0] hs rfl<|Zy hs (Yg rfl (hQ5 0 _ rfl)<|Wp 1 [31] hs rfl<|Zy hs (Db 3 isAgg3 rfl rfl (hR20.at_.1)<|Zy hs (Yk 5 rfl (Bs aS)<|O_s (Cb (args:=[_,_,_]) (lb:=[_,_]) (H1:=[_,_]) hs.f1 rfl rfl func150 rfl kR (ih _ _ pl _ _ b13 _ hs.f1.le hwa bR aS) fun v6 G' H' _ hR hG77 hs=>?_))))))
   obtain ⟨xsa,rfl,hxa,rfl,hla⟩:=hR
   replace hs:=hs.n rfl
   refine Wp 5 [0,1,1] hs rfl<|Zy hs (Gl 5 isAgg186 sizeOf186 rfl rfl (vs:=(pl.set.map Bb)) (Ek aS) ((List.length_map _).trans aS)<|Zy hs (Ba (zs:=Fm false (List.replicate 16 false)) zeroValue227 kR (pl:=[(0,1),(1,16)]) kR rfl (cs:=Fm ya pl.set) (Fk aS)<|O_n (Sw hs.f4 rfl Z0 Z0 (Ci _ _) fun _ hs=>Wp 1 [0] hs rfl<|Ah ?_)))
   have hs:=hs.f3.f2
   refine Zz results148 (Rb 2 hs rfl Z0) ?_
   exact ⟨_,_,hs.weak hs.le (gLr _) (lSa [_,_] _),_,rfl,hxa,rfl,hpl⟩
  refine Wp 5 [0] hs rfl<|Zy hs (Yc rfl (fun h83=>?_) fun h83=>?_)
  ·
   obtain rfl:=fD h56 h72 h83 hwt
   refine Wp 7 [0] hs rfl<|Zy hs (jK underlying228 rfl<|Wp 2 [0] hs rfl ?_)
   obtain ⟨q88,hq88⟩:∃ q,q=pl.live:=⟨_,rfl⟩
   refine Zg hs rfl (Db 4 isAgg4 rfl rfl (show (Fm pl.live pl.set)[0]?=some (.bool q88) from by rw [hq88];rfl) ?_)
   cases q88
   ·
    refine Wp 6 [0] hs rfl<|Zy hs (Ba zeroValue227 rfl Qe rfl (cs:=[_,_,_,_,_,_,_,_,_,_,_,_,_,_,_,_,_]) rfl<|O_n (Sw hs.f3 rfl Z0 Z0 (rfl) fun _ hs=>Wp 1 [0] hs rfl<|Ah ?_))
    have hs:=hs.f2.f2
    refine Zz results148 (Rb 2 hs rfl Z0) ?_
    exact ⟨_,_,hs.weak hs.le (gLr _) (lSa [_,_] _),_,by rw [← hq88];rfl,hx0,rfl,List.length_replicate⟩
   refine Wp 5 [0] hs rfl<|Zy hs (Fi rfl<|O_n (Sd hs.f1 rfl rfl fun _ hs=>Wp 3 [0] hs rfl<|Zy hs (Ba zeroValue227 rfl Qe rfl (cs:=[_,_,_,_,_,_,_,_,_,_,_,_,_,_,_,_,_]) rfl<|O_n (Sw hs.f3 rfl Z0 Z0 (rfl) fun _ hs=>Wp 1 [1,10] hs rfl<|Ah ?_))))
   have hs:=hs.f1.f2
   refine Zz results148 (Rb 2 hs rfl Z0) ?_
   exact ⟨_,_,hs.weak hs.le (gLr _) (lSa [_,_] _),_,by rw [← hq88];rfl,hx0,rfl,List.length_replicate⟩
  refine Wp 6 [0] hs rfl<|Zy hs (Yc rfl (fun h94=>?_) fun h94=>?_)
  ·
   obtain rfl:=Mn h56 h72 h83 (.inl h94) hwt
   refine Wp 7 [0] hs rfl<|Zy hs (Ba zeroValue227 rfl Qe rfl (cs:=[_,_,_,_,_,_,_,_,_,_,_,_,_,_,_,_,_]) rfl<|O_n (Sw hs.f3 rfl Z0 Z0 (rfl) fun _ hs=>Wp 1 [0] hs rfl<|Ah ?_))
   have hs:=hs.f2.f2
   refine Zz results148 (Rb 2 hs rfl Z0) ?_
   exact ⟨_,_,hs.weak hs.le (gLr _) (lSa [_,_] _),_,rfl,hx0,rfl,List.length_replicate⟩
  refine Wp 4 [0] hs rfl<|Zy hs (Yc rfl (fun h95=>?_) fun h95=>?_)
  ·
   obtain rfl:=Mn h56 h72 h83 (.inr h95) hwt
   refine Wp 5 [0] hs rfl<|Zy hs (Ba zeroValue227 rfl Qe rfl (cs:=[_,_,_,_,_,_,_,_,_,_,_,_,_,_,_,_,_]) rfl<|O_n (Sw hs.f3 rfl Z0 Z0 (rfl) fun _ hs=>Wp 1 [0] hs rfl<|Ah ?_))
   have hs:=hs.f2.f2
   refine Zz results148 (Rb 2 hs rfl Z0) ?_
   exact ⟨_,_,hs.weak hs.le (gLr _) (lSa [_,_] _),_,rfl,hx0,rfl,List.length_replicate⟩
  refine Wp 6 [0] hs rfl<|Zy hs (Yk 2 rfl hR20.len<|O_s (Sc (Ss hR20 hok) hs rfl fun v7 G' H' _ hR hG99 hs=>?_))
  obtain ⟨rfl,rfl⟩:=hR
  replace hs:=hs.n rfl
  replace hQ5:=hQ5.mono hG99
  replace hR20:=hR20.mono hG99
  refine Wp 3 [] hs rfl<|O_s (Bd hs zeroValue186 (cs:=((List.replicate 16 false).map Bb)) rfl fun b14 _ hs =>O_n (Sw hs rfl Z0 Z0 (Bx _) fun _ hs=>Wp 3 [7,2,6,8,10,11,14,15] hs rfl<|Bc [0,1,2,3,4,5,6,7] hs kR ?_))
  replace hs:=hs.drew
  refine Xr [0] [0] hs rfl<|Xt 1 hs rfl (Db 5 isAgg4 rfl rfl (rfl)<|Xr [2] [1] hs rfl<|Xt 3 hs rfl (Gl 5 isAgg186 sizeOf186 rfl rfl (vs:=(pl.set.map Bb)) (Ek aS) ((List.length_map _).trans aS)<|Xt 4 hs rfl (Yk 0 rfl ((List.length_map _).trans (Bh _))<|Kq 5 7 rfl rfl kR rfl rfl ?_ ?_)))
  ·
   have hle:=hs.le
   refine Et (H1:=[]) hs rfl func111 rfl kR (Oj hpl (Bh sm)) fun v8 G' H' _ hR hG107 hs=>?_
   obtain ⟨rfl,rfl⟩:=hR
   replace hs:=hs.n rfl
   replace hQ5:=hQ5.mono hG107
   replace hR20:=hR20.mono hG107
   refine Am hs hle hG107 (lSr _)<|Xt 6 hs rfl (Ba (zs:=Fm false (List.replicate 16 false)) zeroValue227 kR (pl:=[(0,1),(1,16)]) kR rfl (cs:=Fm pl.live (Jh pl.set (Gd sm).1)) (Fk (Bo hpl (Bh _))) ?_)
   have hle:=hs.le
   refine Xo 7 rfl (Bd hs zeroValue227 (cs:=(Fm false (List.replicate 16 false))) rfl fun b16 _ hs =>Am hs hle (gLr _) (List.sublist_cons_self _ _)<|Xn 8 rfl (Sw hs rfl Z0 Z0 (Ci _ _) fun _ hs=>Xe (Zk [2,6,8,10,11,15,16] rfl<|Wu 5 [0] hs rfl<|Fv rfl (fun h109=>?_) (fun h109=>?_))))
   ·
    obtain ⟨b,hwb,rfl⟩:=Qu h56 h72 h83 h94 h95 tU hwt
    have kb:=Dv _ _ _ _ hwb
    obtain ⟨b1,b2⟩:=b
    dsimp only at *
    obtain ⟨yb,rfl⟩:=Fw kb rfl
    have hs:=hs.f3.f3
    have hsW:=hs.drop.drop
    refine Wu 1 [] hs rfl<|Bc [0,1,2,3,4,5,6,7] hsW kR ?_
    replace hs:=hs.drew
    replace hsW:=hsW.drew
    refine Xt 0 hsW rfl (Yk 0 rfl (Bs (Bo hpl (Bh _)))<|Xt 1 hsW rfl (Yg rfl (hQ5 0 _ rfl)<|Xr [2] [32] hsW rfl<|Xt 3 hsW rfl (Db 2 isAgg3 rfl rfl (hR20.at_.2)<|Xt 4 hsW rfl (Yk 4 rfl (Bs aS)<|Xr [5] [] hsW rfl ?_))))
    have hs:=hs.f1.f1
    have hle:=hs.le
    refine Xo 6 rfl (Cb (args:=[_,_,_]) (lb:=[_,_]) (H1:=[_,_]) hs rfl rfl func150 rfl kR (ih _ _ pl _ _ bl _ hs.le hwb bR aS) fun v9 G' H' _ hR hG116 hs=>?_)
    obtain ⟨xsb,rfl,hxb,rfl,hlb⟩:=hR
    replace hs:=hs.n rfl
    have hs:=hs.f1.f1
    have hsW:=hs.drop.drop
    refine Am hsW hle hG116 (lSr _) ?_
    have hle:=hs.le
    refine Xo 7 rfl (Sc (Jt (la:=pl.live) (sa:=Jh pl.set (Gd sm).1) (lb:=b1.live) (sb:=b1.set) (Bo hpl (Bh _)) hlb) hs rfl fun v10 G' H' _ hR hG117 hs=>?_)
    obtain ⟨rfl,rfl⟩:=hR
    replace hs:=hs.n rfl
    have hs:=hs.f1.f1
    have hsW:=hs.drop.drop
    refine Am hsW hle hG117 (lSr _)<|Xn 8 rfl (Sw hs.f5 rfl Z0 Z0 (Ci _ _) fun _ hs=>Xe (Zk [10] rfl<|Ah ?_))
    have hs:=hs.f2.f2
    refine Zz results148 (Rb 2 hs rfl Z0) ?_
    exact ⟨_,_,hs.weak hs.le (gLr _) (lSa [_,_] _),_,rfl,hxb,rfl,Ew (Bo hpl (Bh _)) hlb⟩
   obtain ⟨b,hwb,rfl⟩:=Qv h56 h72 h83 h94 h95 tU hwt
   have kb:=Dv _ _ _ _ hwb
   obtain ⟨b1,b2⟩:=b
   dsimp only at *
   obtain ⟨yb,rfl⟩:=Fw kb rfl
   refine Wu 3 [] hs rfl<|Zy hs (Yg rfl (hQ5 0 _ rfl)<|Wp 1 [32] hs rfl<|Zy hs (Db 4 isAgg3 rfl rfl (hR20.at_.2)<|Wp 1 [1] hs rfl<|Zy hs (Gl 6 isAgg186 sizeOf186 rfl rfl (vs:=(pl.set.map Bb)) (Ek aS) ((List.length_map _).trans aS)<|Zy hs (Ba (zs:=Fm false (List.replicate 16 false)) zeroValue227 kR (pl:=[(0,1),(1,16)]) kR rfl (cs:=Fm false pl.set) (Fk aS)<|Wp 1 [] hs rfl<|O_s (Cb (args:=[_,_,_]) (lb:=[_,_]) (H1:=[_,_]) hs.f3.f3 rfl rfl func150 rfl kR (ih _ _ ⟨false,pl.set⟩ _ _ bl _ hs.f3.f3.le hwb bR aS) fun v11 G' H' _ hR hG125 hs=>?_)))))
   obtain ⟨xsb,rfl,hxb,rfl,hlb⟩:=hR
   replace hs:=hs.n rfl
   refine Wp 3 [0] hs rfl<|Zy hs (Yk 2 rfl (Bs (Bo hpl (Bh _)))<|O_n (Sw hs.f5 rfl Z0 Z0 (Ci _ _) fun _ hs=>Wp 1 [0] hs rfl<|Ah ?_))
   have hs:=hs.f2.f2
   refine Zz results148 (Rb 2 hs rfl Z0) ?_
   exact ⟨_,_,hs.weak hs.le (gLr _) (lSa [_,_] _),_,rfl,hxb,rfl,Bo hpl (Bh _)⟩
  have hle:=hs.le
  refine Bd hs zeroValue227 (cs:=(Fm false (List.replicate 16 false))) rfl fun b16 _ hs =>Am hs hle (gLr _) (List.sublist_cons_self _ _) ?_
  have hle:=hs.le
  refine Xo 5 rfl (Sc (Oj hpl (Bh sm)) hs rfl fun v12 G' H' _ hR hG107 hs=>?_)
  obtain ⟨rfl,rfl⟩:=hR
  replace hs:=hs.n rfl
  replace hQ5:=hQ5.mono hG107
  replace hR20:=hR20.mono hG107
  refine Am hs hle hG107 (lSr _)<|Xt 6 hs rfl (Ba (zs:=Fm false (List.replicate 16 false)) zeroValue227 kR (pl:=[(0,1),(1,16)]) kR rfl (cs:=Fm pl.live (Jh pl.set (Gd sm).1)) (Fk (Bo hpl (Bh _)))<|Xn 8 rfl (Sw hs rfl Z0 Z0 (Ci _ _) fun _ hs=>Xe (Zk [2,6,8,10,11,15,16] rfl<|Wu 5 [0] hs rfl<|Fv rfl (fun h109=>?_) (fun h109=>?_))))
  ·
   obtain ⟨b,hwb,rfl⟩:=Qu h56 h72 h83 h94 h95 tU hwt
   have kb:=Dv _ _ _ _ hwb
   obtain ⟨b1,b2⟩:=b
   dsimp only at *
   obtain ⟨yb,rfl⟩:=Fw kb rfl
   have hs:=hs.f3.f3
   have hsW:=hs.drop.drop
   refine Wu 1 [] hs rfl<|Bc [0,1,2,3,4,5,6,7] hsW kR ?_
   replace hs:=hs.drew
   replace hsW:=hsW.drew
   refine Xt 0 hsW rfl (Yk 0 rfl (Bs (Bo hpl (Bh _)))<|Xt 1 hsW rfl (Yg rfl (hQ5 0 _ rfl)<|Xr [2] [32] hsW rfl<|Xt 3 hsW rfl (Db 2 isAgg3 rfl rfl (hR20.at_.2)<|Xt 4 hsW rfl (Yk 4 rfl (Bs aS)<|Xr [5] [] hsW rfl ?_))))
   have hs:=hs.f1.f1
   have hle:=hs.le
   refine Xo 6 rfl (Cb (args:=[_,_,_]) (lb:=[_,_]) (H1:=[_,_]) hs rfl rfl func150 rfl kR (ih _ _ pl _ _ bl _ hs.le hwb bR aS) fun v13 G' H' _ hR hG116 hs=>?_)
   obtain ⟨xsb,rfl,hxb,rfl,hlb⟩:=hR
   replace hs:=hs.n rfl
   have hs:=hs.f1.f1
   have hsW:=hs.drop.drop
   refine Am hsW hle hG116 (lSr _) ?_
   have hle:=hs.le
   refine Xo 7 rfl (Sc (Jt (la:=pl.live) (sa:=Jh pl.set (Gd sm).1) (lb:=b1.live) (sb:=b1.set) (Bo hpl (Bh _)) hlb) hs rfl fun v14 G' H' _ hR hG117 hs=>?_)
   obtain ⟨rfl,rfl⟩:=hR
   replace hs:=hs.n rfl
   have hs:=hs.f1.f1
   have hsW:=hs.drop.drop
   refine Am hsW hle hG117 (lSr _)<|Xn 8 rfl (Sw hs.f5 rfl Z0 Z0 (Ci _ _) fun _ hs=>Xe (Zk [10] rfl<|Ah ?_))
   have hs:=hs.f2.f2
   refine Zz results148 (Rb 2 hs rfl Z0) ?_
   exact ⟨_,_,hs.weak hs.le (gLr _) (lSa [_,_] _),_,rfl,hxb,rfl,Ew (Bo hpl (Bh _)) hlb⟩
  obtain ⟨b,hwb,rfl⟩:=Qv h56 h72 h83 h94 h95 tU hwt
  have kb:=Dv _ _ _ _ hwb
  obtain ⟨b1,b2⟩:=b
  dsimp only at *
  obtain ⟨yb,rfl⟩:=Fw kb rfl
  refine Wu 3 [] hs rfl<|Zy hs (Yg rfl (hQ5 0 _ rfl)<|Wp 1 [32] hs rfl<|Zy hs (Db 4 isAgg3 rfl rfl (hR20.at_.2)<|Wp 1 [1] hs rfl<|Zy hs (Gl 6 isAgg186 sizeOf186 rfl rfl (vs:=(pl.set.map Bb)) (Ek aS) ((List.length_map _).trans aS)<|Zy hs (Ba (zs:=Fm false (List.replicate 16 false)) zeroValue227 kR (pl:=[(0,1),(1,16)]) kR rfl (cs:=Fm false pl.set) (Fk aS)<|Wp 1 [] hs rfl<|O_s (Cb (args:=[_,_,_]) (lb:=[_,_]) (H1:=[_,_]) hs.f3.f3 rfl rfl func150 rfl kR (ih _ _ ⟨false,pl.set⟩ _ _ bl _ hs.f3.f3.le hwb bR aS) fun v15 G' H' _ hR hG125 hs=>?_)))))
  obtain ⟨xsb,rfl,hxb,rfl,hlb⟩:=hR
  replace hs:=hs.n rfl
  refine Wp 3 [0] hs rfl<|Zy hs (Yk 2 rfl (Bs (Bo hpl (Bh _)))<|O_n (Sw hs.f5 rfl Z0 Z0 (Ci _ _) fun _ hs=>Wp 1 [0] hs rfl<|Ah ?_))
  have hs:=hs.f2.f2
  refine Zz results148 (Rb 2 hs rfl Z0) ?_
  exact ⟨_,_,hs.weak hs.le (gLr _) (lSa [_,_] _),_,rfl,hxb,rfl,Bo hpl (Bh _)⟩
 refine Wp 5 [8,0,2,5,6,8,10,11,34] hs rfl<|Wd (fun E w=>∃ (xs0:List Bool) (G2:Ghost),xs0.length=p.stmts.length∧Br G2 q5 [.func (.func 150) #[] #[Vp q1,Vp q6]]∧Gt G2 c20 sm∧G.le G2∧E=⟨[],[(2,Vp bl),(6,Vp q5),(8,Vp b8),(10,Vp b10),(11,Vp b11)]⟩∧St ⟨w0,G,Bl (aT br p.stmts.length xs::gH bl (some x))⟩ G2 [aT br p.stmts.length xs0,.blk bl 4 [.bool x],.blk b11 137 c20,.blk b10 227 (Fm false (List.replicate 16 false)),.blk b8 227 (Fm pl.live pl.set)] w) ?_ ?_
 ·
  refine Wt 2 [] hs rfl<|Bc [0,1,2,3,4,5,6,7,8,9,10,11] hs kR ?_
  replace hs:=hs.drew
  refine Xr [0] [0] hs rfl ?_
  obtain ⟨q39,hq39⟩:∃ q,q=pl.live:=⟨_,rfl⟩
  refine Xt 1 hs rfl (Db 3 isAgg4 rfl rfl (show (Fm pl.live pl.set)[0]?=some (.bool q39) from by rw [hq39];rfl) ?_)
  cases q39
  ·
   refine Xr [2,3,4,5,8,9,6,7,10,11] [] hs rfl<|Xe (Zk [0,2,5,6,8,10,11,49] rfl<|Wu 2 [] hs rfl ?_)
   have hs:=hs.f3.f3.f3.f4.f4
   exact ⟨[(2,_),(6,_),(8,_),(10,_),(11,_)],⟨rfl,rfl,rfl,rfl,rfl,trivial⟩,⟨xs.set i pl.live,_,by rw [List.length_set];exact hx0,hQ5,hR20,hs.le,rfl,Bz hs Z28⟩⟩
  refine Xr [2,3] [1] hs rfl<|Xt 4 hs rfl (Gl 3 isAgg186 sizeOf186 rfl rfl (vs:=(pl.set.map Bb)) (Ek aS) ((List.length_map _).trans aS)<|Xt 5 hs rfl (Yk 1 rfl hR20.len<|Xr [8] [1] hs rfl<|Xt 9 hs rfl (Gl 3 isAgg186 sizeOf186 rfl rfl (vs:=(pl.set.map Bb)) (Ek aS) ((List.length_map _).trans aS) ?_)))
  have hle:=hs.le
  refine Xo 6 rfl (Sc (Wj hR20 hok) hs rfl fun v16 G' H' _ hR hG44 hs=>?_)
  obtain ⟨rfl,rfl⟩:=hR
  replace hs:=hs.n rfl
  replace hQ5:=hQ5.mono hG44
  replace hR20:=hR20.mono hG44
  refine Am hs hle hG44 (lSr _) ?_
  have hle:=hs.le
  refine Xo 7 rfl (Sc (Oj hpl (Ey _)) hs rfl fun v17 G' H' _ hR hG45 hs=>?_)
  obtain ⟨rfl,rfl⟩:=hR
  replace hs:=hs.n rfl
  replace hQ5:=hQ5.mono hG45
  replace hR20:=hR20.mono hG45
  refine Am hs hle hG45 (lSr _)<|Xt 10 hs rfl (Ql underlying186 sizeOf4 isAgg4 underlying4 kR rfl rfl (Bo hpl (Ey _)) hpl (fun h=>absurd (hlv hq39.symm) h) (fun _ =>Xr [11] [] hs rfl<|Xe (Zk [0,2,5,6,8,10,11,49] rfl<|Wu 2 [] hs rfl ?_)))
  have hs:=hs.f3.f3.f3.f4.f4
  exact ⟨[(2,_),(6,_),(8,_),(10,_),(11,_)],⟨rfl,rfl,rfl,rfl,rfl,trivial⟩,⟨xs.set i pl.live,_,by rw [List.length_set];exact hx0,hQ5,hR20,hs.le,rfl,Bz hs Z28⟩⟩
 clear hs
 intro D M L w hL hI
 obtain ⟨xs0,G2,hx0,hQ5,hR20,hGG,hE,hs⟩:=hI
 cases hE
 refine Xb _ hL ?_
 have hQ5:=hQ50.mono hs.le
 refine Wt 4 [0] hs rfl<|Zy hs (Db 2 isAgg3 rfl rfl (hR20.at0.1)<|Wp 4 [0] hs rfl<|Zy hs (Yc rfl (fun h56=>?_) fun h56=>?_))
 ·
  obtain ⟨a,b,hwa,hwb,rfl⟩:=Wk h56 hwt
  have ka:=Dv _ _ _ _ hwa
  obtain ⟨a1,a2⟩:=a
  dsimp only at *
  obtain ⟨ya,rfl⟩:=Fw ka rfl
  have kb:=Dv _ _ _ _ hwb
  obtain ⟨b1,b2⟩:=b
  dsimp only at *
  obtain ⟨yb,rfl⟩:=Fw kb rfl
  refine Wp 5 [0] hs rfl<|Zy hs (Yg rfl (hQ5 0 _ rfl)<|Wp 1 [31] hs rfl<|Zy hs (Db 2 isAgg3 rfl rfl (hR20.at_.1)<|Zy hs (Yk 4 rfl (Bs aS)<|Wp 1 [] hs rfl<|O_s (Cb (args:=[_,_,_]) (lb:=[_,_]) (H1:=[_,_]) hs.f1.f1 rfl rfl func150 rfl kR (ih _ _ pl _ _ bl _ hs.f1.f1.le hwa bR aS) fun v18 G' H' _ hR hG62 hs=>?_))))
  obtain ⟨xsa,rfl,hxa,rfl,hla⟩:=hR
  replace hs:=hs.n rfl
  replace hQ5:=hQ5.mono hG62
  replace hR20:=hR20.mono hG62
  refine O_s (Bd hs zeroValue227 (cs:=(Fm false (List.replicate 16 false))) rfl fun b12 _ hs =>O_n (Sw hs rfl Z0 Z0 (Ci _ _) fun _ hs=>Wp 1 [0] hs rfl ?_))
  have hs:=hs.f2.f2
  have hsW:=hs.drop.drop
  refine Wu 1 [] hs rfl<|Bc [0,1,2,3,4,5,6,7] hsW kR ?_
  replace hs:=hs.drew
  replace hsW:=hsW.drew
  refine Xt 0 hsW rfl (Yk 0 rfl (Bs aS)<|Xt 1 hsW rfl (Yg rfl (hQ5 0 _ rfl)<|Xr [2] [32] hsW rfl<|Xt 3 hsW rfl (Db 1 isAgg3 rfl rfl (hR20.at_.2)<|Xt 4 hsW rfl (Yk 3 rfl (Bs aS)<|Xr [5] [] hsW rfl ?_))))
  have hs:=hs.f1.f1
  have hle:=hs.le
  refine Xo 6 rfl (Cb (args:=[_,_,_]) (lb:=[_,_]) (H1:=[_,_]) hs rfl rfl func150 rfl kR (ih _ _ pl _ _ bl _ hs.le hwb bR aS) fun v19 G' H' _ hR hG69 hs=>?_)
  obtain ⟨xsb,rfl,hxb,rfl,hlb⟩:=hR
  replace hs:=hs.n rfl
  have hs:=hs.f1.f1
  have hsW:=hs.drop.drop
  refine Am hsW hle hG69 (lSr _) ?_
  have hle:=hs.le
  refine Xo 7 rfl (Sc (Jt (la:=a1.live) (sa:=a1.set) (lb:=b1.live) (sb:=b1.set) hla hlb) hs rfl fun v20 G' H' _ hR hG70 hs=>?_)
  obtain ⟨rfl,rfl⟩:=hR
  replace hs:=hs.n rfl
  have hs:=hs.f1.f1
  have hsW:=hs.drop.drop
  refine Am hsW hle hG70 (lSr _)<|Xn 8 rfl (Sw hs.f4 rfl Z0 Z0 (Ci _ _) fun _ hs=>Xe (Zk [10] rfl<|Ah ?_))
  have hs:=hs.f2.f2
  refine Zz results148 (Rb 2 hs rfl Z0) ?_
  exact ⟨_,_,hs.weak hs.le (gLr _) (lSa [_,_] _),_,rfl,hxb,rfl,Ew hla hlb⟩
 refine Wp 5 [0] hs rfl<|Zy hs (Yc rfl (fun h72=>?_) fun h72=>?_)
 ·
  obtain ⟨a,hwa,rfl⟩:=Wl h56 h72 hwt
  have ka:=Dv _ _ _ _ hwa
  obtain ⟨a1,a2⟩:=a
  dsimp only at *
  obtain ⟨ya,rfl⟩:=Fw ka rfl
  refine Wp 5 [0] hs rfl<|O_s (Sa hs zeroValue4 rfl fun b13 _ hs=>O_n (Sd hs rfl rfl fun _ hs=>Wp 3 [0] hs rfl<|Zy hs (Yg rfl (hQ5 0 _ rfl)<|Wp 1 [31] hs rfl<|Zy hs (Db 3 isAgg3 rfl rfl (hR20.at_.1)<|Zy hs (Yk 5 rfl (Bs aS)<|O_s (Cb (args:=[_,_,_]) (lb:=[_,_]) (H1:=[_,_]) hs.f1 rfl rfl func150 rfl kR (ih _ _ pl _ _ b13 _ hs.f1.le hwa bR aS) fun v21 G' H' _ hR hG77 hs=>?_))))))
  obtain ⟨xsa,rfl,hxa,rfl,hla⟩:=hR
  replace hs:=hs.n rfl
  refine Wp 5 [0,1,1] hs rfl<|Zy hs (Gl 5 isAgg186 sizeOf186 rfl rfl (vs:=(pl.set.map Bb)) (Ek aS) ((List.length_map _).trans aS)<|Zy hs (Ba (zs:=Fm false (List.replicate 16 false)) zeroValue227 kR (pl:=[(0,1),(1,16)]) kR rfl (cs:=Fm ya pl.set) (Fk aS)<|O_n (Sw hs.f4 rfl Z0 Z0 (Ci _ _) fun _ hs=>Wp 1 [0] hs rfl<|Ah ?_)))
  have hs:=hs.f3.f2
  refine Zz results148 (Rb 2 hs rfl Z0) ?_
  exact ⟨_,_,hs.weak hs.le (gLr _) (lSa [_,_] _),_,rfl,hxa,rfl,hpl⟩
 refine Wp 5 [0] hs rfl<|Zy hs (Yc rfl (fun h83=>?_) fun h83=>?_)
 ·
  obtain rfl:=fD h56 h72 h83 hwt
  refine Wp 7 [0] hs rfl<|Zy hs (jK underlying228 rfl<|Wp 2 [0] hs rfl ?_)
  obtain ⟨q88,hq88⟩:∃ q,q=pl.live:=⟨_,rfl⟩
  refine Zg hs rfl (Db 4 isAgg4 rfl rfl (show (Fm pl.live pl.set)[0]?=some (.bool q88) from by rw [hq88];rfl) ?_)
  cases q88
  ·
   refine Wp 6 [0] hs rfl<|Zy hs (Ba zeroValue227 rfl Qe rfl (cs:=[_,_,_,_,_,_,_,_,_,_,_,_,_,_,_,_,_]) rfl<|O_n (Sw hs.f3 rfl Z0 Z0 (rfl) fun _ hs=>Wp 1 [0] hs rfl<|Ah ?_))
   have hs:=hs.f2.f2
   refine Zz results148 (Rb 2 hs rfl Z0) ?_
   exact ⟨_,_,hs.weak hs.le (gLr _) (lSa [_,_] _),_,by rw [← hq88];rfl,hx0,rfl,List.length_replicate⟩
  refine Wp 5 [0] hs rfl<|Zy hs (Fi rfl<|O_n (Sd hs.f1 rfl rfl fun _ hs=>Wp 3 [0] hs rfl<|Zy hs (Ba zeroValue227 rfl Qe rfl (cs:=[_,_,_,_,_,_,_,_,_,_,_,_,_,_,_,_,_]) rfl<|O_n (Sw hs.f3 rfl Z0 Z0 (rfl) fun _ hs=>Wp 1 [1,10] hs rfl<|Ah ?_))))
  have hs:=hs.f1.f2
  refine Zz results148 (Rb 2 hs rfl Z0) ?_
  exact ⟨_,_,hs.weak hs.le (gLr _) (lSa [_,_] _),_,by rw [← hq88];rfl,hx0,rfl,List.length_replicate⟩
 refine Wp 6 [0] hs rfl<|Zy hs (Yc rfl (fun h94=>?_) fun h94=>?_)
 ·
  obtain rfl:=Mn h56 h72 h83 (.inl h94) hwt
  refine Wp 7 [0] hs rfl<|Zy hs (Ba zeroValue227 rfl Qe rfl (cs:=[_,_,_,_,_,_,_,_,_,_,_,_,_,_,_,_,_]) rfl<|O_n (Sw hs.f3 rfl Z0 Z0 (rfl) fun _ hs=>Wp 1 [0] hs rfl<|Ah ?_))
  have hs:=hs.f2.f2
  refine Zz results148 (Rb 2 hs rfl Z0) ?_
  exact ⟨_,_,hs.weak hs.le (gLr _) (lSa [_,_] _),_,rfl,hx0,rfl,List.length_replicate⟩
 refine Wp 4 [0] hs rfl<|Zy hs (Yc rfl (fun h95=>?_) fun h95=>?_)
 ·
  obtain rfl:=Mn h56 h72 h83 (.inr h95) hwt
  refine Wp 5 [0] hs rfl<|Zy hs (Ba zeroValue227 rfl Qe rfl (cs:=[_,_,_,_,_,_,_,_,_,_,_,_,_,_,_,_,_]) rfl<|O_n (Sw hs.f3 rfl Z0 Z0 (rfl) fun _ hs=>Wp 1 [0] hs rfl<|Ah ?_))
  have hs:=hs.f2.f2
  refine Zz results148 (Rb 2 hs rfl Z0) ?_
  exact ⟨_,_,hs.weak hs.le (gLr _) (lSa [_,_] _),_,rfl,hx0,rfl,List.length_replicate⟩
 refine Wp 6 [0] hs rfl<|Zy hs (Yk 2 rfl hR20.len<|O_s (Sc (Ss hR20 hok) hs rfl fun v22 G' H' _ hR hG99 hs=>?_))
 obtain ⟨rfl,rfl⟩:=hR
 replace hs:=hs.n rfl
 replace hQ5:=hQ5.mono hG99
 replace hR20:=hR20.mono hG99
 refine Wp 3 [] hs rfl<|O_s (Bd hs zeroValue186 (cs:=((List.replicate 16 false).map Bb)) rfl fun b14 _ hs =>O_n (Sw hs rfl Z0 Z0 (Bx _) fun _ hs=>Wp 3 [7,2,6,8,10,11,14,15] hs rfl<|Bc [0,1,2,3,4,5,6,7] hs kR ?_))
 replace hs:=hs.drew
 refine Xr [0] [0] hs rfl<|Xt 1 hs rfl (Db 5 isAgg4 rfl rfl (rfl)<|Xr [2] [1] hs rfl<|Xt 3 hs rfl (Gl 5 isAgg186 sizeOf186 rfl rfl (vs:=(pl.set.map Bb)) (Ek aS) ((List.length_map _).trans aS)<|Xt 4 hs rfl (Yk 0 rfl ((List.length_map _).trans (Bh _))<|Kq 5 7 rfl rfl kR rfl rfl ?_ ?_)))
 ·
  have hle:=hs.le
  refine Et (H1:=[]) hs rfl func111 rfl kR (Oj hpl (Bh sm)) fun v23 G' H' _ hR hG107 hs=>?_
  obtain ⟨rfl,rfl⟩:=hR
  replace hs:=hs.n rfl
  replace hQ5:=hQ5.mono hG107
  replace hR20:=hR20.mono hG107
  refine Am hs hle hG107 (lSr _)<|Xt 6 hs rfl (Ba (zs:=Fm false (List.replicate 16 false)) zeroValue227 kR (pl:=[(0,1),(1,16)]) kR rfl (cs:=Fm pl.live (Jh pl.set (Gd sm).1)) (Fk (Bo hpl (Bh _))) ?_)
  have hle:=hs.le
  refine Xo 7 rfl (Bd hs zeroValue227 (cs:=(Fm false (List.replicate 16 false))) rfl fun b16 _ hs =>Am hs hle (gLr _) (List.sublist_cons_self _ _)<|Xn 8 rfl (Sw hs rfl Z0 Z0 (Ci _ _) fun _ hs=>Xe (Zk [2,6,8,10,11,15,16] rfl<|Wu 5 [0] hs rfl<|Fv rfl (fun h109=>?_) (fun h109=>?_))))
  ·
   obtain ⟨b,hwb,rfl⟩:=Qu h56 h72 h83 h94 h95 tU hwt
   have kb:=Dv _ _ _ _ hwb
   obtain ⟨b1,b2⟩:=b
   dsimp only at *
   obtain ⟨yb,rfl⟩:=Fw kb rfl
   have hs:=hs.f3.f3
   have hsW:=hs.drop.drop
   refine Wu 1 [] hs rfl<|Bc [0,1,2,3,4,5,6,7] hsW kR ?_
   replace hs:=hs.drew
   replace hsW:=hsW.drew
   refine Xt 0 hsW rfl (Yk 0 rfl (Bs (Bo hpl (Bh _)))<|Xt 1 hsW rfl (Yg rfl (hQ5 0 _ rfl)<|Xr [2] [32] hsW rfl<|Xt 3 hsW rfl (Db 2 isAgg3 rfl rfl (hR20.at_.2)<|Xt 4 hsW rfl (Yk 4 rfl (Bs aS)<|Xr [5] [] hsW rfl ?_))))
   have hs:=hs.f1.f1
   have hle:=hs.le
   refine Xo 6 rfl (Cb (args:=[_,_,_]) (lb:=[_,_]) (H1:=[_,_]) hs rfl rfl func150 rfl kR (ih _ _ pl _ _ bl _ hs.le hwb bR aS) fun v24 G' H' _ hR hG116 hs=>?_)
   obtain ⟨xsb,rfl,hxb,rfl,hlb⟩:=hR
   replace hs:=hs.n rfl
   have hs:=hs.f1.f1
   have hsW:=hs.drop.drop
   refine Am hsW hle hG116 (lSr _) ?_
   have hle:=hs.le
   refine Xo 7 rfl (Sc (Jt (la:=pl.live) (sa:=Jh pl.set (Gd sm).1) (lb:=b1.live) (sb:=b1.set) (Bo hpl (Bh _)) hlb) hs rfl fun v25 G' H' _ hR hG117 hs=>?_)
   obtain ⟨rfl,rfl⟩:=hR
   replace hs:=hs.n rfl
   have hs:=hs.f1.f1
   have hsW:=hs.drop.drop
   refine Am hsW hle hG117 (lSr _)<|Xn 8 rfl (Sw hs.f5 rfl Z0 Z0 (Ci _ _) fun _ hs=>Xe (Zk [10] rfl<|Ah ?_))
   have hs:=hs.f2.f2
   refine Zz results148 (Rb 2 hs rfl Z0) ?_
   exact ⟨_,_,hs.weak hs.le (gLr _) (lSa [_,_] _),_,rfl,hxb,rfl,Ew (Bo hpl (Bh _)) hlb⟩
  obtain ⟨b,hwb,rfl⟩:=Qv h56 h72 h83 h94 h95 tU hwt
  have kb:=Dv _ _ _ _ hwb
  obtain ⟨b1,b2⟩:=b
  dsimp only at *
  obtain ⟨yb,rfl⟩:=Fw kb rfl
  refine Wu 3 [] hs rfl<|Zy hs (Yg rfl (hQ5 0 _ rfl)<|Wp 1 [32] hs rfl<|Zy hs (Db 4 isAgg3 rfl rfl (hR20.at_.2)<|Wp 1 [1] hs rfl<|Zy hs (Gl 6 isAgg186 sizeOf186 rfl rfl (vs:=(pl.set.map Bb)) (Ek aS) ((List.length_map _).trans aS)<|Zy hs (Ba (zs:=Fm false (List.replicate 16 false)) zeroValue227 kR (pl:=[(0,1),(1,16)]) kR rfl (cs:=Fm false pl.set) (Fk aS)<|Wp 1 [] hs rfl<|O_s (Cb (args:=[_,_,_]) (lb:=[_,_]) (H1:=[_,_]) hs.f3.f3 rfl rfl func150 rfl kR (ih _ _ ⟨false,pl.set⟩ _ _ bl _ hs.f3.f3.le hwb bR aS) fun v26 G' H' _ hR hG125 hs=>?_)))))
  obtain ⟨xsb,rfl,hxb,rfl,hlb⟩:=hR
  replace hs:=hs.n rfl
  refine Wp 3 [0] hs rfl<|Zy hs (Yk 2 rfl (Bs (Bo hpl (Bh _)))<|O_n (Sw hs.f5 rfl Z0 Z0 (Ci _ _) fun _ hs=>Wp 1 [0] hs rfl<|Ah ?_))
  have hs:=hs.f2.f2
  refine Zz results148 (Rb 2 hs rfl Z0) ?_
  exact ⟨_,_,hs.weak hs.le (gLr _) (lSa [_,_] _),_,rfl,hxb,rfl,Bo hpl (Bh _)⟩
 have hle:=hs.le
 refine Bd hs zeroValue227 (cs:=(Fm false (List.replicate 16 false))) rfl fun b16 _ hs =>Am hs hle (gLr _) (List.sublist_cons_self _ _) ?_
 have hle:=hs.le
 refine Xo 5 rfl (Sc (Oj hpl (Bh sm)) hs rfl fun v27 G' H' _ hR hG107 hs=>?_)
 obtain ⟨rfl,rfl⟩:=hR
 replace hs:=hs.n rfl
 replace hQ5:=hQ5.mono hG107
 replace hR20:=hR20.mono hG107
 refine Am hs hle hG107 (lSr _)<|Xt 6 hs rfl (Ba (zs:=Fm false (List.replicate 16 false)) zeroValue227 kR (pl:=[(0,1),(1,16)]) kR rfl (cs:=Fm pl.live (Jh pl.set (Gd sm).1)) (Fk (Bo hpl (Bh _)))<|Xn 8 rfl (Sw hs rfl Z0 Z0 (Ci _ _) fun _ hs=>Xe (Zk [2,6,8,10,11,15,16] rfl<|Wu 5 [0] hs rfl<|Fv rfl (fun h109=>?_) (fun h109=>?_))))
 ·
  obtain ⟨b,hwb,rfl⟩:=Qu h56 h72 h83 h94 h95 tU hwt
  have kb:=Dv _ _ _ _ hwb
  obtain ⟨b1,b2⟩:=b
  dsimp only at *
  obtain ⟨yb,rfl⟩:=Fw kb rfl
  have hs:=hs.f3.f3
  have hsW:=hs.drop.drop
  refine Wu 1 [] hs rfl<|Bc [0,1,2,3,4,5,6,7] hsW kR ?_
  replace hs:=hs.drew
  replace hsW:=hsW.drew
  refine Xt 0 hsW rfl (Yk 0 rfl (Bs (Bo hpl (Bh _)))<|Xt 1 hsW rfl (Yg rfl (hQ5 0 _ rfl)<|Xr [2] [32] hsW rfl<|Xt 3 hsW rfl (Db 2 isAgg3 rfl rfl (hR20.at_.2)<|Xt 4 hsW rfl (Yk 4 rfl (Bs aS)<|Xr [5] [] hsW rfl ?_))))
  have hs:=hs.f1.f1
  have hle:=hs.le
  refine Xo 6 rfl (Cb (args:=[_,_,_]) (lb:=[_,_]) (H1:=[_,_]) hs rfl rfl func150 rfl kR (ih _ _ pl _ _ bl _ hs.le hwb bR aS) fun v28 G' H' _ hR hG116 hs=>?_)
  obtain ⟨xsb,rfl,hxb,rfl,hlb⟩:=hR
  replace hs:=hs.n rfl
  have hs:=hs.f1.f1
  have hsW:=hs.drop.drop
  refine Am hsW hle hG116 (lSr _) ?_
  have hle:=hs.le
  refine Xo 7 rfl (Sc (Jt (la:=pl.live) (sa:=Jh pl.set (Gd sm).1) (lb:=b1.live) (sb:=b1.set) (Bo hpl (Bh _)) hlb) hs rfl fun v29 G' H' _ hR hG117 hs=>?_)
  obtain ⟨rfl,rfl⟩:=hR
  replace hs:=hs.n rfl
  have hs:=hs.f1.f1
  have hsW:=hs.drop.drop
  refine Am hsW hle hG117 (lSr _)<|Xn 8 rfl (Sw hs.f5 rfl Z0 Z0 (Ci _ _) fun _ hs=>Xe (Zk [10] rfl<|Ah ?_))
  have hs:=hs.f2.f2
  refine Zz results148 (Rb 2 hs rfl Z0) ?_
  exact ⟨_,_,hs.weak hs.le (gLr _) (lSa [_,_] _),_,rfl,hxb,rfl,Ew (Bo hpl (Bh _)) hlb⟩
 obtain ⟨b,hwb,rfl⟩:=Qv h56 h72 h83 h94 h95 tU hwt
 have kb:=Dv _ _ _ _ hwb
 obtain ⟨b1,b2⟩:=b
 dsimp only at *
 obtain ⟨yb,rfl⟩:=Fw kb rfl
 refine Wu 3 [] hs rfl<|Zy hs (Yg rfl (hQ5 0 _ rfl)<|Wp 1 [32] hs rfl<|Zy hs (Db 4 isAgg3 rfl rfl (hR20.at_.2)<|Wp 1 [1] hs rfl<|Zy hs (Gl 6 isAgg186 sizeOf186 rfl rfl (vs:=(pl.set.map Bb)) (Ek aS) ((List.length_map _).trans aS)<|Zy hs (Ba (zs:=Fm false (List.replicate 16 false)) zeroValue227 kR (pl:=[(0,1),(1,16)]) kR rfl (cs:=Fm false pl.set) (Fk aS)<|Wp 1 [] hs rfl<|O_s (Cb (args:=[_,_,_]) (lb:=[_,_]) (H1:=[_,_]) hs.f3.f3 rfl rfl func150 rfl kR (ih _ _ ⟨false,pl.set⟩ _ _ bl _ hs.f3.f3.le hwb bR aS) fun v30 G' H' _ hR hG125 hs=>?_)))))
 obtain ⟨xsb,rfl,hxb,rfl,hlb⟩:=hR
 replace hs:=hs.n rfl
 refine Wp 3 [0] hs rfl<|Zy hs (Yk 2 rfl (Bs (Bo hpl (Bh _)))<|O_n (Sw hs.f5 rfl Z0 Z0 (Ci _ _) fun _ hs=>Wp 1 [0] hs rfl<|Ah ?_))
 have hs:=hs.f2.f2
 refine Zz results148 (Rb 2 hs rfl Z0) ?_
 exact ⟨_,_,hs.weak hs.le (gLr _) (lSa [_,_] _),_,rfl,hxb,rfl,Bo hpl (Bh _)⟩
theorem pJ {p:By} {f i:Nat} {st R:Jz×Option Bool} (h:Ol p (Mm p f) i st=some R):R.2.isSome=st.2.isSome:=by
  obtain ⟨s,_,_,_,h⟩:=Sv h
  exact pH (fun b st R=>Dv f b st R) h
theorem blkn_ok {G:Ghost} {As Ab:Option Addr} {cs cb br bl q1 q3 q4 q5 q6 f:Nat} {b:Int} {p:By} {pl:Jz} {R:Jz×Option Bool} {xs:List Bool} (hQ1:Br G q1 [.slice As p.stmts.length cs,.slice Ab p.blocks.length cb]) (hS:fA G (.slice As p.stmts.length cs) p.stmts) (hB:LN G (.slice Ab p.blocks.length cb) p.blocks) (hst:∀ s∈p.stmts,bP s=true) (hbll:∀ l∈p.blocks,l.length≤1000) (hnn:p.stmts.length≤64) (hQ6:Br G q6 [.func (.func 148) #[] #[Vp q1,Vp q3,Vp q4,Vp q5]]) (ih:StmC G p br q1 q3 q4 q5 f) (hw:Mm p (f+1) b (pl,none)=some R) (hpl:pl.set.length=16) (hx0:xs.length=p.stmts.length) :
  Ai prog 150 [Vi b,(.agg (Fm pl.live pl.set).toArray),.pointer none,Vp q1,Vp q6] G (aT br p.stmts.length xs::gH bl none) fun r _ H'=>∃ xs',H'=aT br p.stmts.length xs'::gH bl R.2∧xs'.length=p.stmts.length∧r=.agg (Fm R.1.live R.1.set).toArray∧R.1.set.length=16:=by
 refine Ai.of_T [(0,_),(1,_),(2,_),(3,_),(4,_)] func150 rfl ntmps150 sM rfl fun w0 hs=>?_
 have hQ10:=hQ1
 have hQ60:=hQ6
 have hB0:=hB
 refine Wt 2 [] hs rfl<|O_s (Dw hs rfl (cs:=_) rfl fun b6 _ hs =>O_s (Bd hs zeroValue227 (cs:=(Fm false (List.replicate 16 false))) rfl fun b8 _ hs =>Wp 5 [0] hs rfl<|Zy hs (Yc rfl (fun h12=>?_) fun h12=>?_)))
 ·
  refine Wp 4 [0] hs rfl<|Zy hs (Yk 1 rfl (Bs aS)<|O_n (Sw hs rfl Z6 Z6 (Ci _ _) fun _ hs=>Wp 1 [0] hs rfl<|Ah ?_))
  have hs:=hs.f2
  refine Zz results150 (Rb 1 hs rfl Z6) ?_
  rw [Mm,if_pos oM] at hw
  obtain rfl:=Option.some.inj hw
  exact ⟨_,_,hs.weak hs.le (gLr _) (lSa [_] _),_,rfl,hx0,rfl,hpl⟩
 refine Wp 3 [0] hs rfl ?_
 obtain ⟨k,rfl⟩:∃ k:Nat,b=(k:Int):=Int.eq_ofNat_of_zero_le oM
 rw [Mm,if_neg oM,Int.toNat_natCast] at hw
 obtain ⟨l0,hl0,hw⟩:=Option.bind_eq_some_iff.1 hw
 obtain ⟨hkB,hl0⟩:=List.getElem?_eq_some_iff.1 hl0
 rw [← hl0] at hw
 refine Wu 4 [1] hs rfl<|Zy hs (Yg rfl (hQ1 1 _ rfl)<|Wp 1 [] hs rfl<|Zy hs (Bv hB k underlying41 sizeOf33 rfl rfl rfl hkB fun p17 c17 hp17 hc17 hR17=>?_))
 obtain ⟨bl_,hble⟩:∃ r,r=p.blocks[k]'hkB:=⟨_,rfl⟩
 rw [← hble] at hR17 hw
 have hbll2:bl_.length≤1000:=hbll bl_ Z30
 obtain ⟨u17,rfl,hbl⟩:=hR17
 obtain ⟨Abl,cbl,rfl,_⟩:=id hbl
 refine Zy hs (Yg rfl (hp17 0 (.slice Abl bl_.length cbl) rfl)<|Wp 3 [0] hs rfl ?_)
 have hs:=hs.f1.f1.f2
 refine Zl [2,4,6,8,18,19,20] (fun m E w=>∃ (j:Nat) (u:Jz) (ys:List Bool) (G2:Ghost),j≤bl_.length∧(bl_.drop j).foldl (fun o i=>o.bind (Ol p (Mm p f) i)) (some (u,none))=some R∧u.set.length=16∧ys.length=p.stmts.length∧Cr G2 (.slice Abl bl_.length cbl) bl_∧m=bl_.length-j∧E=⟨[],[(2,.pointer none),(4,Vp q6),(6,Vp b6),(8,Vp b8),(18,.slice Abl bl_.length cbl),(19,Vi ((bl_.length:Nat):Int)),(20,Vi (j:Int))]⟩∧St ⟨w0,G,Bl (aT br p.stmts.length xs::gH bl none)⟩ G2 [aT br p.stmts.length ys,.blk b8 227 (Fm false (List.replicate 16 false)),.blk b6 227 (Fm u.live u.set)] w) rfl (⟨0,pl,xs,_,by omega,hw,hpl,hx0,hbl,rfl,rfl,hs⟩) fun m E w hI=>?_
 obtain ⟨j,u,ys,G2,hj,hfo,hu,hys,hbl,rfl,rfl,hs⟩:=hI
 have hQ1:=hQ10.mono hs.le
 have hQ6:=hQ60.mono hs.le
 refine Wt 2 [] hs rfl<|Zy hs (Yc rfl (fun h21=>?_) fun h21=>?_)
 ·
  refine Wp 8 [0] hs rfl<|Zy hs (Eo hbl j underlying33 sizeOf3 rfl rfl rfl oM fun p22 hp22=>?_)
  obtain ⟨i,hie⟩:∃ q,q=bl_[j]'oM:=⟨_,rfl⟩
  rw [← hie] at hp22
  refine Zy hs (Yg rfl (hp22)<|Wp 3 [0] hs rfl ?_)
  rw [List.drop_eq_getElem_cons oM,← hie] at hfo
  obtain ⟨t,hws,hfo2⟩:=fE hfo
  have kt:=pJ hws
  obtain ⟨t1,t2⟩:=t
  dsimp only at *
  obtain rfl:=Ku kt rfl
  refine Zy hs (Yg rfl (hQ6 0 _ rfl)<|Wp 1 [] hs rfl<|Zy hs (Yk 2 rfl (Bs aS)<|Wp 1 [] hs rfl<|O_s (Cb (args:=[_,_,_]) (lb:=[_,_,_,_]) (H1:=[_]) hs rfl rfl func148 rfl kR (ih _ _ u _ _ bl _ hs.le hws hu hys) fun v1 G' H' _ hR hG28 hs=>?_)))
  obtain ⟨xst,rfl,hxt,rfl,hlt⟩:=hR
  replace hs:=hs.n rfl
  replace hbl:=hbl.mono hG28
  refine O_n (Sw hs.f2 rfl Z6 Z6 (Ci _ _) fun _ hs=>Wp 2 [0] hs rfl<|Zy hs (Ya (s:=((j+1:Nat):Int)) rfl<|Wp 1 [] hs rfl ?_))
  have hs:=hs.f2.f2
  refine Zx [2,4,6,8,18,19,20] rfl ⟨j+1,t1,xst,_,by omega,hfo2,hlt,hxt,hbl,rfl,rfl,hs.weak hs.le (gLr _) (lSa [_,_,_] _)⟩
 refine Wp 4 [0] hs rfl<|Wu 2 [] hs rfl<|Zy hs (Yk 2 rfl (Bs aS)<|O_n (Sw hs.f1 rfl Z6 Z6 (Ci _ _) fun _ hs=>Wp 1 [0] hs rfl<|Ah ?_))
 have hs:=hs.f1
 refine Zz results150 (Rb 1 hs rfl Z6) ?_
 obtain rfl:j=bl_.length:=by omega
 rw [List.drop_length] at hfo
 obtain rfl:=Option.some.inj hfo
 exact ⟨_,_,hs.weak hs.le (gLr _) (lSa [_] _),_,rfl,hys,rfl,hu⟩
theorem blks_ok {G:Ghost} {As Ab:Option Addr} {cs cb br bl q1 q3 q4 q5 q6 f:Nat} {b:Int} {x:Bool} {p:By} {pl:Jz} {R:Jz×Option Bool} {xs:List Bool} (hQ1:Br G q1 [.slice As p.stmts.length cs,.slice Ab p.blocks.length cb]) (hS:fA G (.slice As p.stmts.length cs) p.stmts) (hB:LN G (.slice Ab p.blocks.length cb) p.blocks) (hst:∀ s∈p.stmts,bP s=true) (hbll:∀ l∈p.blocks,l.length≤1000) (hnn:p.stmts.length≤64) (hQ6:Br G q6 [.func (.func 148) #[] #[Vp q1,Vp q3,Vp q4,Vp q5]]) (ih:StmC G p br q1 q3 q4 q5 f) (hw:Mm p (f+1) b (pl,(some x))=some R) (hpl:pl.set.length=16) (hx0:xs.length=p.stmts.length) :
  Ai prog 150 [Vi b,(.agg (Fm pl.live pl.set).toArray),Vp bl,Vp q1,Vp q6] G (aT br p.stmts.length xs::gH bl (some x)) fun r _ H'=>∃ xs',H'=aT br p.stmts.length xs'::gH bl R.2∧xs'.length=p.stmts.length∧r=.agg (Fm R.1.live R.1.set).toArray∧R.1.set.length=16:=by
 refine Ai.of_T [(0,_),(1,_),(2,_),(3,_),(4,_)] func150 rfl ntmps150 sM rfl fun w0 hs=>?_
 have hQ10:=hQ1
 have hQ60:=hQ6
 have hB0:=hB
 refine Wt 2 [] hs rfl<|O_s (Dw hs rfl (cs:=_) rfl fun b6 _ hs =>O_s (Bd hs zeroValue227 (cs:=(Fm false (List.replicate 16 false))) rfl fun b8 _ hs =>Wp 5 [0] hs rfl<|Zy hs (Yc rfl (fun h12=>?_) fun h12=>?_)))
 ·
  refine Wp 4 [0] hs rfl<|Zy hs (Yk 1 rfl (Bs aS)<|O_n (Sw hs rfl Z6 Z6 (Ci _ _) fun _ hs=>Wp 1 [0] hs rfl<|Ah ?_))
  have hs:=hs.f3.f3
  refine Zz results150 (Rb 2 hs rfl Z6) ?_
  rw [Mm,if_pos oM] at hw
  obtain rfl:=Option.some.inj hw
  exact ⟨_,_,hs.weak hs.le (gLr _) (lSa [_,_] _),_,rfl,hx0,rfl,hpl⟩
 refine Wp 3 [0] hs rfl ?_
 obtain ⟨k,rfl⟩:∃ k:Nat,b=(k:Int):=Int.eq_ofNat_of_zero_le oM
 rw [Mm,if_neg oM,Int.toNat_natCast] at hw
 obtain ⟨l0,hl0,hw⟩:=Option.bind_eq_some_iff.1 hw
 obtain ⟨hkB,hl0⟩:=List.getElem?_eq_some_iff.1 hl0
 rw [← hl0] at hw
 refine Wu 4 [1] hs rfl<|Zy hs (Yg rfl (hQ1 1 _ rfl)<|Wp 1 [] hs rfl<|Zy hs (Bv hB k underlying41 sizeOf33 rfl rfl rfl hkB fun p17 c17 hp17 hc17 hR17=>?_))
 obtain ⟨bl_,hble⟩:∃ r,r=p.blocks[k]'hkB:=⟨_,rfl⟩
 rw [← hble] at hR17 hw
 have hbll2:bl_.length≤1000:=hbll bl_ Z30
 obtain ⟨u17,rfl,hbl⟩:=hR17
 obtain ⟨Abl,cbl,rfl,_⟩:=id hbl
 refine Zy hs (Yg rfl (hp17 0 (.slice Abl bl_.length cbl) rfl)<|Wp 3 [0] hs rfl ?_)
 have hs:=hs.f1.f1.f3.f3
 refine Zl [2,4,6,8,18,19,20] (fun m E w=>∃ (j:Nat) (y:Bool) (u:Jz) (ys:List Bool) (G2:Ghost),j≤bl_.length∧(bl_.drop j).foldl (fun o i=>o.bind (Ol p (Mm p f) i)) (some (u,(some y)))=some R∧u.set.length=16∧ys.length=p.stmts.length∧Cr G2 (.slice Abl bl_.length cbl) bl_∧m=bl_.length-j∧E=⟨[],[(2,Vp bl),(4,Vp q6),(6,Vp b6),(8,Vp b8),(18,.slice Abl bl_.length cbl),(19,Vi ((bl_.length:Nat):Int)),(20,Vi (j:Int))]⟩∧St ⟨w0,G,Bl (aT br p.stmts.length xs::gH bl (some x))⟩ G2 [aT br p.stmts.length ys,.blk bl 4 [.bool y],.blk b8 227 (Fm false (List.replicate 16 false)),.blk b6 227 (Fm u.live u.set)] w) rfl (⟨0,x,pl,xs,_,by omega,hw,hpl,hx0,hbl,rfl,rfl,hs⟩) fun m E w hI=>?_
 obtain ⟨j,y,u,ys,G2,hj,hfo,hu,hys,hbl,rfl,rfl,hs⟩:=hI
 have hQ1:=hQ10.mono hs.le
 have hQ6:=hQ60.mono hs.le
 refine Wt 2 [] hs rfl<|Zy hs (Yc rfl (fun h21=>?_) fun h21=>?_)
 ·
  refine Wp 8 [0] hs rfl<|Zy hs (Eo hbl j underlying33 sizeOf3 rfl rfl rfl oM fun p22 hp22=>?_)
  obtain ⟨i,hie⟩:∃ q,q=bl_[j]'oM:=⟨_,rfl⟩
  rw [← hie] at hp22
  refine Zy hs (Yg rfl (hp22)<|Wp 3 [0] hs rfl ?_)
  rw [List.drop_eq_getElem_cons oM,← hie] at hfo
  obtain ⟨t,hws,hfo2⟩:=fE hfo
  have kt:=pJ hws
  obtain ⟨t1,t2⟩:=t
  dsimp only at *
  obtain ⟨yt,rfl⟩:=Fw kt rfl
  refine Zy hs (Yg rfl (hQ6 0 _ rfl)<|Wp 1 [] hs rfl<|Zy hs (Yk 3 rfl (Bs aS)<|Wp 1 [] hs rfl<|O_s (Cb (args:=[_,_,_]) (lb:=[_,_,_,_]) (H1:=[_,_]) hs.f1.f1 rfl rfl func148 rfl kR (ih _ _ u _ _ bl _ hs.f1.f1.le hws hu hys) fun v1 G' H' _ hR hG28 hs=>?_)))
  obtain ⟨xst,rfl,hxt,rfl,hlt⟩:=hR
  replace hs:=hs.n rfl
  replace hbl:=hbl.mono hG28
  refine O_n (Sw hs.f3 rfl Z6 Z6 (Ci _ _) fun _ hs=>Wp 2 [0] hs rfl<|Zy hs (Ya (s:=((j+1:Nat):Int)) rfl<|Wp 1 [] hs rfl ?_))
  have hs:=hs.f3.f3.f3
  refine Zx [2,4,6,8,18,19,20] rfl ⟨j+1,yt,t1,xst,_,by omega,hfo2,hlt,hxt,hbl,rfl,rfl,hs.weak hs.le (gLr _) (lSa [_,_,_,_] _)⟩
 refine Wp 4 [0] hs rfl<|Wu 2 [] hs rfl<|Zy hs (Yk 3 rfl (Bs aS)<|O_n (Sw hs.f2 rfl Z6 Z6 (Ci _ _) fun _ hs=>Wp 1 [0] hs rfl<|Ah ?_))
 have hs:=hs.f2.f2
 refine Zz results150 (Rb 2 hs rfl Z6) ?_
 obtain rfl:j=bl_.length:=by omega
 rw [List.drop_length] at hfo
 obtain rfl:=Option.some.inj hfo
 exact ⟨_,_,hs.weak hs.le (gLr _) (lSa [_,_] _),_,rfl,hys,rfl,hu⟩
theorem pK {G:Ghost} {As Ab:Option Addr} {cs cb br q1 q3 q4 q5 q6:Nat} {p:By} (hQ1:Br G q1 [.slice As p.stmts.length cs,.slice Ab p.blocks.length cb]) (hS:fA G (.slice As p.stmts.length cs) p.stmts) (hB:LN G (.slice Ab p.blocks.length cb) p.blocks) (hst:∀ s∈p.stmts,bP s=true) (hbll:∀ l∈p.blocks,l.length≤1000) (hnn:p.stmts.length≤64) (hQ3:Br G q3 [Vs br p.stmts.length p.stmts.length,Vi (-1),Vi 0]) (hQ5:Br G q5 [.func (.func 150) #[] #[Vp q1,Vp q6]]) (hQ6:Br G q6 [.func (.func 148) #[] #[Vp q1,Vp q3,Vp q4,Vp q5]]):∀ f,BlkC G p br q1 q6 f
  | 0,_,_,_,_,_,_,_,_,h,_,_=>by cases h
  | f+1,G1,b,pl,lf,R,bl,xs,hG,h,hpl,hxs=>by
    have hs:StmC G1 p br q1 q3 q4 q5 f:=fun G2 i pl lf R bl xs hG2 hw hpl hxs=>by
      have ih:BlkC G2 p br q1 q6 f:=fun G3 b pl lf R bl xs hG3 hb=>pK hQ1 hS hB hst hbll hnn hQ3 hQ5 hQ6 f G3 b pl lf R bl xs ((hG.trans hG2).trans hG3) hb
      have g:=hG.trans hG2
      cases lf with
      | none=>exact stmn_ok (hQ1.mono g) (hS.mono g) (hB.mono g) hst hbll hnn (hQ3.mono g) (hQ5.mono g) ih hw hpl hxs
      | some x=>exact stms_ok (hQ1.mono g) (hS.mono g) (hB.mono g) hst hbll hnn (hQ3.mono g) (hQ5.mono g) ih hw hpl hxs
    cases lf with
    | none=>exact blkn_ok (hQ1.mono hG) (hS.mono hG) (hB.mono hG) hst hbll hnn (hQ6.mono hG) hs h hpl hxs
    | some x=>exact blks_ok (hQ1.mono hG) (hS.mono hG) (hB.mono hG) hst hbll hnn (hQ6.mono hG) hs h hpl hxs
theorem PL183:places prog 183=some [(0,1),(1,1),(2,1)]:=by kernel_rfl
theorem walk_ok {G:Ghost} {v:Value} {p:By} {f:Nat} {R:Jz×Option Bool} (hp:mK G v p) (hg:dU p=true) (hw:Mm p f 0 (⟨true,Ih [0] []⟩,none)=some R) :
  Ai prog 108 [v] G [] fun r _ H'=>H'=[]∧∃ u,r=.agg #[u,Vi (-1),Vi 0]∧u.oneCell'=true:=by
 obtain ⟨vs,vb,rfl,hS,hB⟩:=hp
 obtain ⟨As,cs,rfl⟩:=Be.slice hS
 obtain ⟨Ab,cb,rfl⟩:=Be.slice hB
 obtain ⟨hst,htr,hb1,hbn,hsn,hbll⟩:=Pf hg
 have kR:=Ku (Dv _ _ _ _ hw) rfl
 obtain ⟨R1,R2⟩:=R
 dsimp only at kR
 subst kR
 refine Ai.of_T [(0,_)] func108 rfl ntmps108 sM rfl fun w0 hs=>?_
 have hS0:=hS
 have hB0:=hB
 refine Wt 2 [] hs rfl<|O_s (Sb hs rfl fun b1 _ hs=>O_s (Sa hs zeroValue183 rfl fun b2 _ hs=>Wp 6 [0,0,1] hs rfl<|O_s (Fx (n:=p.stmts.length) (m:=p.stmts.length) hs underlying64 oN rfl rfl rfl oM oM oM fun b10 _ hs =>Zy hs (Ba zeroValue183 rfl PL183 rfl (cs:=[_,_,_]) rfl<|O_s (Sa hs zeroValue183 rfl fun b3 _ hs=>O_n (Sg hs rfl (rfl) fun _ hs=>Wp 3 [0] hs rfl<|Zy hs (Dn (vs:=[_]) rfl<|O_s (Sa hs zeroValue224 rfl fun b4 _ hs=>O_n (Sd hs rfl rfl fun _ hs=>Wp 3 [0] hs rfl<|O_s (Sa hs zeroValue225 rfl fun b5 _ hs=>Wp 3 [0] hs rfl<|Zy hs (Dn (vs:=[_,_,_,_]) rfl<|O_s (Sa hs zeroValue225 rfl fun b6 _ hs=>O_n (Sd hs rfl rfl fun _ hs=>Wp 3 [0] hs rfl<|Zy hs (Dn (vs:=[_,_]) rfl<|O_n (Sd hs.f1 rfl rfl fun _ hs=>Wp 1 [0] hs rfl ?_)))))))))))))))
 have hs:=hs.f6
 obtain ⟨_,hGbhQ1,hQ1,hs⟩:=hs.fixBlk (fun k _=>Ht k)
 replace hS:=hS.mono hGbhQ1
 replace hB:=hB.mono hGbhQ1
 replace hQ1:Br _ b1 _:=hQ1
 have hs:=hs.f3
 obtain ⟨_,hGbhQ3,hQ3,hs⟩:=hs.fixBlk (fun k _=>Ht k)
 replace hS:=hS.mono hGbhQ3
 replace hB:=hB.mono hGbhQ3
 replace hQ1:=hQ1.mono hGbhQ3
 replace hQ3:Br _ b3 _:=hQ3
 have hs:=hs.f2
 obtain ⟨_,hGbhQ4,hQ4,hs⟩:=hs.fixBlk (fun k _=>Ht k)
 replace hS:=hS.mono hGbhQ4
 replace hB:=hB.mono hGbhQ4
 replace hQ1:=hQ1.mono hGbhQ4
 replace hQ3:=hQ3.mono hGbhQ4
 replace hQ4:Br _ b4 _:=hQ4
 obtain ⟨_,hGbhQ5,hQ5,hs⟩:=hs.fixBlk (fun k _=>Ht k)
 replace hS:=hS.mono hGbhQ5
 replace hB:=hB.mono hGbhQ5
 replace hQ1:=hQ1.mono hGbhQ5
 replace hQ3:=hQ3.mono hGbhQ5
 replace hQ5:Br _ b5 _:=hQ5
 obtain ⟨_,hGbhQ6,hQ6,hs⟩:=hs.fixBlk (fun k _=>Ht k)
 replace hS:=hS.mono hGbhQ6
 replace hB:=hB.mono hGbhQ6
 replace hQ1:=hQ1.mono hGbhQ6
 replace hQ3:=hQ3.mono hGbhQ6
 replace hQ5:=hQ5.mono hGbhQ6
 replace hQ6:Br _ b6 _:=hQ6
 refine Wu 1 [] hs rfl<|Bc [0,1,2,3] hs kR ?_
 replace hs:=hs.drew
 refine Xt 0 hs rfl (Yg rfl (hQ5 0 _ rfl) ?_)
 have hle:=hs.le
 refine Xo 1 rfl (Se hs zeroValue3 rfl fun v1 _ hs _=>?_)
 obtain ⟨_,hG16,hl16,hs⟩:=hs.fixRow noM
 replace hS:=hS.mono hG16
 replace hB:=hB.mono hG16
 replace hQ1:=hQ1.mono hG16
 replace hQ3:=hQ3.mono hG16
 replace hQ5:=hQ5.mono hG16
 replace hQ6:=hQ6.mono hG16
 refine Am hs hle hG16 (lSr _) ?_
 have hle:=hs.le
 refine Xo 2 rfl (Sc (Hy (la:=[0]) (ma:=[]) hl16 (show Bt _ (Vn) [] from Sl.nil _ _) Z26 nI sM sM) hs rfl fun v2 G' H' _ hR hG17 hs=>?_)
 obtain ⟨rfl,rfl⟩:=hR
 replace hs:=hs.n rfl
 replace hS:=hS.mono hG17
 replace hB:=hB.mono hG17
 replace hQ1:=hQ1.mono hG17
 replace hQ3:=hQ3.mono hG17
 replace hQ5:=hQ5.mono hG17
 replace hQ6:=hQ6.mono hG17
 refine Am hs hle hG17 (lSr _)<|Xt 3 hs rfl (Ba (zs:=Fm false (List.replicate 16 false)) zeroValue227 kR (pl:=[(0,1),(1,16)]) kR rfl (cs:=Fm true (Ih [0] [])) (Fk (Iy _ _)) ?_)
 rw [Lp] at hs
 refine Xa 4 rfl (Cb (args:=[_,_,_]) (lb:=[_,_]) (H1:=[_]) hs rfl rfl func150 rfl kR (pK hQ1 hS hB hst hbll hsn hQ3 hQ5 hQ6 f _ _ ⟨true,Ih [0] []⟩ none (R1,none) 0 (List.replicate p.stmts.length false) (gLr _) hw (Iy _ _) sM) fun v3 G' H' _ hR hG19 hs=>?_)
 obtain ⟨xs1,rfl,hx1,rfl,hl1⟩:=hR
 replace hs:=hs.n rfl
 replace hQ3:=hQ3.mono hG19
 refine Xe (Zk [2,3] rfl<|Wu 2 [] hs rfl<|Zy hs (Cu (vs:=[Vs b10 p.stmts.length p.stmts.length,Vi (-1),Vi 0]) isAgg183 sizeOf183 rfl hQ3.whole rfl<|O_n (Sg hs.f1 rfl (rfl) fun _ hs=>Wp 1 [0] hs rfl<|Ah<|Zz results108 (Rb 0 hs rfl rF) ?_)))
 exact ⟨_,[],hs.done,rfl,_,rfl,rfl⟩
theorem PL152:places prog 152=some [(0,1),(1,1),(2,1)]:=by kernel_rfl
theorem TI9:TI prog 9 (.string ByteArray.empty) 1 16:=TI.of kR
section
variable {x:Cx} {W:World→Prop} {E:Env} {K:Value→Prop} {d:Option Tmp} {ty:TypeId} {pos:String} {aft:Array Edge} {g:Option (Nat×Bool)} {o p:Operand} {xt yt:TypeId}
theorem yN {a b:List UInt8} {q:Bool} (h1:ev E o=some (.string ⟨a.toArray⟩)) (h2:ev E p=some (.string ⟨b.toArray⟩)) (hq:Op.bytesLess a b=q) (k:K (.bool q)):Y x W ⟨d,.binOp .lss xt o p yt,ty,pos,aft,g⟩ E K:=by
  refine De (v:=.bool q) (fun f hf w _=>?_) k
  have he:eqGuard .lss xt o p (.string ⟨a.toArray⟩) (.string ⟨b.toArray⟩)=pure ():=rfl
  have e1:∀ q:ByteArray,q.toList=q.data.toList:=fun q=>ByteArray.toList_eq q
  simp only [execOp,hf.ev h1,hf.ev h2,he]
  simp [binOp,Op.stringOp,e1,hq]
theorem tB {o q:Operand} {t:TypeId} {s:ByteArray} {kd:IntKind} {j:Int} (i m:Nat) (hu:x.P.underlying t=some .string) (h1:ev E o=some (.string s)) (h2:ev E q=some (.int kd j)) (hj:j=(i:Int)) (hm:s.data.toList.length=m) (hi:i<m)
    (k:∀ b:UInt8,K (.int .u8 (b.toNat:Int))):Y x W ⟨d,.index t o q,ty,pos,aft,g⟩ E K:=by
  subst hj
  subst hm
  have hs:i<s.size:=by rw [show s.size=s.data.toList.length from rfl];exact hi
  exact gT i hu h1 h2 rfl (b:=s[i]) (getElem?_pos s i hs) (k _)
end
theorem str_one (l:List (List UInt8)):∀ y∈l.map Hr,y.oneCell'=true:=by
  intro y hy
  obtain ⟨s,_,rfl⟩:=List.mem_map.1 hy
  rfl
theorem Wm {l:List (List UInt8)} {i:Nat} (h:i<l.length):(l.map Hr)[i]?=some (Hr l[i]):=by rw [List.getElem?_map,List.getElem?_eq_getElem h];rfl
def tC (l:List (List UInt8)):Prop:=∀ i,(h:i+1<l.length)→Op.bytesLess l[i+1] l[i]=false∧¬ l[i+1]=l[i]
theorem isns_ok {G:Ghost} {s:List UInt8} :
  Ai prog 200 [.string ⟨s.toArray⟩] G [] fun r _ H'=>H'=[]∧r=Vf:=by
 refine Ai.of_T [(0,_)] func200 rfl ntmps200 sM rfl fun w0 hs =>Wt 8 [0] hs rfl<|Zy hs (uL rfl rfl (fun h=>absurd rfl h) (fun _ =>Wp 2 [0] hs rfl<|Ah<|Zz results200 rfl ?_))
 exact ⟨_,[],hs.done,rfl,rfl⟩
theorem yO {G:Ghost} {s t:List UInt8} {q:Bool} (hq:Op.bytesLess s t=q) :
  Ai prog 177 [.string ⟨s.toArray⟩,.string ⟨t.toArray⟩] G [] fun r _ H'=>H'=[]∧r=.bool q:=by
 refine Ai.of_T [(0,_),(1,_)] func177 rfl ntmps177 sM rfl fun w0 hs =>Wt 7 [0] hs rfl<|O_s (Sc (isns_ok) hs rfl fun v1 G' H' _ hR hG6 hs=>?_)
 obtain ⟨rfl,rfl⟩:=hR
 replace hs:=hs.n rfl
 refine Wp 8 [] hs rfl<|Zg hs rfl (yN rfl rfl hq<|Wp 3 [0] hs rfl<|Ah<|Zz results177 rfl ?_)
 exact ⟨_,[],hs.done,rfl,rfl⟩
theorem inss_ok {G:Ghost} {vq:Value} {l:List (List UInt8)} (hl:l.length≤12) (hs0:tC l) :
  Ai prog 171 [vq,Vi 0,Vi (l.length:Int)] G [.row 9 1 vq l.length (l.map Hr)] fun r _ H'=>H'=[.row 9 1 vq l.length (l.map Hr)]:=by
 have hlt:∀ i:Nat,1≤i→(h:(i:Int)<(l.length:Int))→Op.bytesLess (l[i]'oM) (l[i-1]'oM)=false:=fun i h1 h2=>by
  obtain ⟨j,rfl⟩:∃ j,i=j+1:=⟨i-1,by omega⟩
  exact (hs0 j oM).1
 refine Ai.of_T [(0,_),(1,_),(2,_)] func171 rfl ntmps171 sM rfl fun w0 hs =>Wt 3 [] hs rfl<|Zy hs (Eb rfl rfl rfl oM<|Wp 2 [0] hs rfl<|Zl [0,1,2,6] (fun m E w=>∃ (i:Nat) (G2:Ghost),1≤i∧i≤13∧m=l.length-i∧E=⟨[],[(0,vq),(1,Vi 0),(2,Vi (l.length:Int)),(6,Vi (i:Int))]⟩∧St ⟨w0,G,Bl [.row 9 1 vq l.length (l.map Hr)]⟩ G2 [.row 9 1 vq l.length (l.map Hr)] w) rfl (⟨1,_,by omega,by omega,rfl,rfl,hs⟩) fun m E w hI=>?_)
 obtain ⟨i,G2,hi1,hi2,rfl,rfl,hs⟩:=hI
 refine Wt 5 [] hs rfl<|Zy hs (Yc rfl (fun h12=>?_) fun h12=>?_)
 ·
  refine Wp 10 [0,0] hs rfl<|Dp (Ej 1 (L:=[(0,_),(1,_),(2,_),(6,_),(7,_)]) ⟨rfl,rfl,rfl,rfl,rfl,trivial⟩ (Gn<|Wt 2 [] hs rfl<|Bc [0,1,2,3,4,5,6,7,8,9,10,11,12,13,14] hs kR ?_))
  replace hs:=hs.drew
  refine Xr [0,1] [] hs rfl<|Xt 2 hs rfl (Im rfl rfl rfl oM<|Xr [3,4,5] [] hs rfl<|Xt 6 hs rfl (Hd (j:=((i:Nat):Int)) (i) 0 rfl underlying150 sizeOf9 rfl rfl rfl oM (u:=(Hr (l[i]'oM))) ((Wm oM)) hs fun p22 hp22 =>Xt 7 hs rfl (Iq isAgg9 rfl hp22<|Xr [8,9] [] hs rfl<|Xt 10 hs rfl (Fc (c:=((i-1:Nat):Int)) rfl rfl oM oM<|Xt 11 hs rfl (Hd (j:=((i-1:Nat):Int)) (i-1) 0 rfl underlying150 sizeOf9 rfl rfl rfl oM (u:=(Hr (l[i-1]'oM))) ((Wm oM)) hs fun p27 hp27 =>Xt 12 hs rfl (Iq isAgg9 rfl hp27 ?_))))))
  have hle:=hs.le
  refine Xo 13 rfl (Sc (yO (hlt i hi1 h12)) hs rfl fun v1 G' H' _ hR hG29 hs=>?_)
  obtain ⟨rfl,rfl⟩:=hR
  replace hs:=hs.n rfl
  refine Am hs hle hG29 (lSr _)<|Xr [14] [] hs rfl<|Xe (Zk [0,1,2,6,7,30] rfl<|Wu 2 [] hs rfl<|Wu 2 [] hs rfl<|Zy hs (Ya (s:=((i+1:Nat):Int)) rfl<|Wp 1 [] hs rfl<|Zx [0,1,2,6] rfl ⟨i+1,_,by omega,by omega,rfl,rfl,hs⟩))
 refine Wp 3 [0] hs rfl ?_
 try dsimp only [Ex.At,Ex.sqs,Ex.sq,Ex.lp,Ex.bk]
 try rw [show Nat.beq _ _=true from Nat.beq_refl _,cond_true]
 refine Ez (vs:=[]) results171 rfl trivial ?_
 try dsimp only [tup]
 exact ⟨_,_,hs,rfl⟩
theorem pdqs_ok {G:Ghost} {vq:Value} {z:Int} {l:List (List UInt8)} (hl:l.length≤12) (hs0:tC l) :
  Ai prog 151 [vq,Vi 0,Vi (l.length:Int),Vi z] G [.row 9 1 vq l.length (l.map Hr)] fun r _ H'=>H'=[.row 9 1 vq l.length (l.map Hr)]:=by
 refine Ai.of_T [(0,_),(1,_),(2,_),(3,_)] func151 rfl ntmps151 sM rfl fun w0 hs =>Wt 8 [0,0] hs rfl<|Dp (Ej 1 (L:=[(0,_),(1,_),(2,_),(3,_),(8,_),(9,_)]) ⟨rfl,rfl,rfl,rfl,rfl,rfl,trivial⟩ (Gn<|Wt 5 [] hs rfl<|Zy hs (Fc (c:=(l.length:Int)) rfl rfl oM oM<|Wp 6 [0] hs rfl<|Zy hs (Im rfl rfl rfl oM<|Wp 7 [0] hs rfl<|O_s (Sc (inss_ok hl hs0) hs rfl fun v1 G' H' _ hR hG27 hs=>?_)))))
 obtain rfl:=hR
 replace hs:=hs.n rfl
 refine Wp 1 [0] hs rfl<|Ah ?_
 refine Bi (vs:=[]) results151 rfl trivial ?_
 try dsimp only [tup]
 exact ⟨_,_,hs,rfl⟩
theorem tD {G:Ghost} {a:Nat} (ha:a<256) :
  Ai prog 126 [Af a] G [] fun r _ H'=>H'=[]∧∃ z,r=Vi z:=by
 refine Ai.of_T [(0,_)] func126 rfl ntmps126 sM rfl fun w0 hs =>Wt 8 [0] hs rfl<|Zy hs (Di rfl rfl rfl oM<|Wp 7 [0] hs rfl<|Zy hs (Di rfl rfl rfl oM<|Wp 7 [0] hs rfl<|Zy hs (Di rfl rfl rfl oM<|Wp 7 [0] hs rfl<|Zy hs (Dj underlying125 underlying5 (c:=a) rfl (by rw [IntKind.wrap_u8];omega)<|Zy hs (tB a 256 underlying9 rfl rfl rfl kR ha fun z22 =>Zy hs (Dj underlying5 underlying3 (c:=(z22.toNat:Int)) rfl (by have:=z22.toNat_lt;rw [IntKind.wrap_i64];omega)<|Zy hs (Eb (c:=(z22.toNat:Int)) rfl rfl (by have:=z22.toNat_lt;omega) (by have:=z22.toNat_lt;omega)<|Wp 2 [0] hs rfl<|Ah<|Zz results126 rfl ?_)))))))
 exact ⟨_,[],hs.done,rfl,⟨_,rfl⟩⟩
theorem Wn {G:Ghost} {a:Nat} (ha:a<256) :
  Ai prog 93 [Af a] G [] fun r _ H'=>H'=[]∧∃ z,r=Vi z:=by
 refine Ai.of_T [(0,_)] func93 rfl ntmps93 sM rfl fun w0 hs =>Wt 10 [0] hs rfl<|O_s (Sc (tD ha) hs rfl fun v1 G' H' _ hR hG7 hs=>?_)
 obtain ⟨rfl,z,rfl⟩:=hR
 replace hs:=hs.n rfl
 refine Wp 2 [0] hs rfl<|Ah<|Zz results93 rfl ?_
 exact ⟨_,[],hs.done,rfl,⟨_,rfl⟩⟩
theorem srts_ok {G:Ghost} {vq:Value} {l:List (List UInt8)} (hl:l.length≤12) (hs0:tC l) :
  Ai prog 113 [vq] G [.row 9 1 vq l.length (l.map Hr)] fun r _ H'=>H'=[.row 9 1 vq l.length (l.map Hr)]:=by
 refine Ai.of_T [(0,_)] func113 rfl ntmps113 sM rfl fun w0 hs =>Wt 3 [] hs rfl<|Zy hs (Dq 0 rfl underlying150 rfl hs<|Wp 6 [0] hs rfl<|Zy hs (Dj underlying3 underlying162 (c:=(l.length:Int)) rfl (by rw [IntKind.wrap_u64];omega)<|O_s (Sc (Wn (a:=l.length) oM) hs rfl fun v1 G' H' _ hR hG9 hs=>?_)))
 obtain ⟨rfl,z,rfl⟩:=hR
 replace hs:=hs.n rfl
 refine O_s (Sc (pdqs_ok hl hs0) hs rfl fun v2 G' H' _ hR hG10 hs=>?_)
 obtain rfl:=hR
 replace hs:=hs.n rfl
 refine Cl (Ez (vs:=[]) results113 rfl trivial ?_)
 try dsimp only [tup]
 exact ⟨_,_,hs,rfl⟩
theorem cmps_ok {G:Ghost} {vq:Value} {l:List (List UInt8)} (hl:l.length≤12) (hs0:tC l) :
  Ai prog 114 [vq] G [.row 9 1 vq l.length (l.map Hr)] fun r _ H'=>r=vq∧H'=[.row 9 1 vq l.length (l.map Hr)]:=by
 have hlt:∀ i:Nat,1≤i→(h:(i:Int)<(l.length:Int))→¬ (l[i]'oM)=(l[i-1]'oM):=fun i h1 h2=>by
  obtain ⟨j,rfl⟩:∃ j,i=j+1:=⟨i-1,by omega⟩
  exact (hs0 j oM).2
 refine Ai.of_T [(0,_)] func114 rfl ntmps114 sM rfl fun w0 hs =>Wt 8 [0] hs rfl<|Zy hs (Dq 0 rfl underlying150 rfl hs<|Zy hs (Yc rfl (fun h8=>?_) fun h8=>?_))
 ·
  refine Wp 7 [0,0] hs rfl<|Ah<|Zz results114 rfl ?_
  exact ⟨_,_,hs,rfl,rfl⟩
 refine Wp 8 [0,0] hs rfl<|Zl [0,3] (fun m E w=>∃ (i:Nat) (G2:Ghost),1≤i∧i≤13∧m=l.length-i∧E=⟨[],[(0,vq),(3,Vi (i:Int))]⟩∧St ⟨w0,G,Bl [.row 9 1 vq l.length (l.map Hr)]⟩ G2 [.row 9 1 vq l.length (l.map Hr)] w) rfl (⟨1,_,by omega,by omega,rfl,rfl,hs⟩) fun m E w hI=>?_
 obtain ⟨i,G2,hi1,hi2,rfl,rfl,hs⟩:=hI
 refine Wt 5 [] hs rfl<|Zy hs (Dq 0 rfl underlying150 rfl hs<|Zy hs (Yc rfl (fun h13=>?_) fun h13=>?_))
 ·
  refine Wp 6 [0] hs rfl<|Bc [0,1,2,3,4,5,6,7,8,9] hs kR ?_
  replace hs:=hs.drew
  refine Xr [0,1] [] hs rfl<|Xt 2 hs rfl (Hd (j:=((i:Nat):Int)) (i) 0 rfl underlying150 sizeOf9 rfl rfl rfl oM (u:=(Hr (l[i]'oM))) ((Wm oM)) hs fun p18 hp18 =>Xt 3 hs rfl (Iq isAgg9 rfl hp18<|Xr [4,5] [] hs rfl<|Xt 6 hs rfl (Fc (c:=((i - 1:Nat):Int)) rfl rfl oM oM<|Xt 7 hs rfl (Hd (j:=((i - 1:Nat):Int)) (i - 1) 0 rfl underlying150 sizeOf9 rfl rfl rfl oM (u:=(Hr (l[i - 1]'oM))) ((Wm oM)) hs fun p23 hp23 =>Xt 8 hs rfl (Iq isAgg9 rfl hp23<|Xt 9 hs rfl (gP rfl rfl (fun h=>absurd h (hlt i hi1 h13)) (fun _ =>Xe (Zk [0,3,25] rfl<|Wu 4 [] hs rfl<|Zy hs (Ya (s:=((i+1:Nat):Int)) rfl<|Wp 1 [] hs rfl<|Zx [0,3] rfl ⟨i+1,_,by omega,by omega,rfl,rfl,hs⟩)))))))))
 refine Wp 3 [0] hs rfl<|Wu 5 [0] hs rfl<|Ah<|Zz results114 rfl ?_
 exact ⟨_,_,hs,rfl,rfl⟩
def Om (l:List Bm):List (List UInt8):=(l.filter fun s=>decide (s.kind=13)).map (·.name)
theorem fldN_T {l:List Bm} {k:Nat} (h:k<l.length) (hk:l[k].kind=13):Om (l.take (k+1))=Om (l.take k)++[l[k].name]:=by
  unfold Om
  rw [List.take_add_one,List.getElem?_eq_getElem h,List.filter_append,List.map_append]
  simp [hk]
theorem fldN_F {l:List Bm} {k:Nat} (h:k<l.length) (hk:¬ l[k].kind=13):Om (l.take (k+1))=Om (l.take k):=by
  unfold Om
  rw [List.take_add_one,List.getElem?_eq_getElem h,List.filter_append,List.map_append]
  simp [hk]
theorem pL {l:List Bm} {k:Nat}:(Om (l.take k)).length≤l.length:=by
  unfold Om
  rw [List.length_map]
  have h1:=List.length_filter_le (fun s:Bm=>decide (s.kind=13)) (l.take k)
  rw [List.length_take] at h1
  omega
theorem Gt.at30 {G:Ghost} {cs:List Value} {s:Bm} (h:Gt G cs s):cs[30]?=some (Hr s.name):=by
  obtain ⟨vb,vo,vn,vp,vy,vr,rfl,_⟩:=h
  rfl
theorem yP {l:List Bool} {q:Bool} {i:Nat} {h:i<l.length} (hq:q=l[i]):(l.map Bb)[i]?=some (.bool q):=by
  rw [List.getElem?_map,List.getElem?_eq_getElem h,hq];rfl
theorem rchk_ok {G:Ghost} {v:Value} {p:By} {f1 f2:Nat} {z:Int} {R:Jz×Option Bool} (hp:mK G v p) (hg:dU p=true) (hb:Le p f1 0=some z) (hz:z≤262144) (hw:Mm p f2 0 (⟨true,Ih [0] []⟩,none)=some R) (hn12:(Om p.stmts).length≤12) (hsr:tC (Om p.stmts)) (hT:Tab G) :
  Ai prog 86 [v] G [] fun r _ H'=>H'=[]∧∃ a b c,r=.tuple #[.agg #[a,b,c],Vi 0]∧([a,b,c].all fun x=>x.oneCell')=true:=by
 obtain ⟨vs,vb,rfl,hS,hB⟩:=hp
 obtain ⟨As,cs,rfl⟩:=Be.slice hS
 obtain ⟨Ab,cb,rfl⟩:=Be.slice hB
 obtain ⟨hst,htr,hb1,hbn,hsn,hbll⟩:=Pf hg
 refine Ai.of_T [(0,_)] func86 rfl ntmps86 sM rfl fun w0 hs=>?_
 have hS0:=hS
 have hB0:=hB
 have hT0:=hT
 refine Wt 2 [] hs rfl<|O_s (Sb hs rfl fun b1 _ hs=>O_s (Sa hs zeroValue152 rfl fun b2 _ hs=>Wp 6 [0,1] hs rfl<|O_s (Sc (dval_ok ⟨_,_,rfl,hS,hB⟩ hg hT) hs rfl fun v1 G' H' _ hR hG15 hs=>?_)))
 obtain ⟨rfl,rfl⟩:=hR
 replace hs:=hs.n rfl
 replace hS:=hS.mono hG15
 replace hB:=hB.mono hG15
 refine Wp 13 [0,0,1] hs rfl<|O_s (Sc (pG hS hB hst hbll f1 _ 0 z (gLr _) hb) hs rfl fun v2 G' H' _ hR hG21 hs=>?_)
 obtain ⟨rfl,rfl⟩:=hR
 replace hs:=hs.n rfl
 replace hS:=hS.mono hG21
 replace hB:=hB.mono hG21
 refine Zy hs (Di rfl rfl rfl oM<|Wp 7 [0,1] hs rfl<|O_s (Sc (walk_ok ⟨_,_,rfl,hS,hB⟩ hg hw) hs rfl fun v3 G' H' _ hR hG25 hs=>?_))
 obtain ⟨rfl,u25,rfl,hu25⟩:=hR
 replace hs:=hs.n rfl
 replace hS:=hS.mono hG25
 refine O_s (Sa hs zeroValue183 rfl fun b5 _ hs=>O_n (Es hs sizeOf183 rfl rfl (vs:=[_,_,_]) rfl (by simp only [List.all_cons,List.all_nil,hu25];rfl) sM (cs':=[_,_,_]) rfl fun _ hs =>Wp 11 [0,2,0,0] hs rfl<|O_s (Ca hs underlying33 sizeOf3 zeroValue3 rfl rfl dC dC rfl (cs:=[_]) rfl rfl fun v4 _ hs _=>?_)))
 obtain ⟨_,hG32,hl32,hs⟩:=hs.fixRow noM
 replace hS:=hS.mono hG32
 refine O_s (Sc (Hy (la:=[0]) (ma:=[]) hl32 (show Bt _ (Vn) [] from Sl.nil _ _) Z26 nI sM sM) hs rfl fun v5 G' H' _ hR hG33 hs=>?_)
 obtain ⟨rfl,rfl⟩:=hR
 replace hs:=hs.n rfl
 replace hS:=hS.mono hG33
 refine O_s (Bd hs zeroValue186 (cs:=((List.replicate 16 false).map Bb)) rfl fun b6 _ hs =>O_n (Ro hs sizeOf186 rfl rfl (vs:=_) Z1 Z1 (Bx _) fun _ hs =>Wp 3 [3,1,2,6] hs rfl<|O_s (Sa hs zeroValue152 rfl fun b7 _ hs=>Wp 9 [0,0,4,0] hs rfl ?_)))
 have hs:=hs.nilRow 9 1
 have hs:=hs.f4.f3.f3.f3
 refine Zl [2,6,7,35,36,37] (fun m E w=>∃ (k:Nat) (xs:List Bool) (vq:Value) (G2:Ghost),k≤p.stmts.length∧xs.length=16∧fA G2 (.slice As p.stmts.length cs) p.stmts∧m=p.stmts.length-k∧E=⟨[],[(2,Vp b2),(6,Vp b6),(7,Vp b7),(35,.slice As p.stmts.length cs),(36,Vi ((p.stmts.length:Nat):Int)),(37,Vi (k:Int))]⟩∧St ⟨w0,G,Bl []⟩ G2 [.row 9 1 vq (Om (p.stmts.take k)).length ((Om (p.stmts.take k)).map Hr),.blk b7 152 [Vi 0,Vi 0,vq],.blk b6 186 (xs.map Bb),.blk b2 152 [Vi 0,Vi 0,Vn]] w) rfl (⟨0,(Ih [0] []),Vn,_,by omega,Iy _ _,hS,rfl,rfl,Bz (hs.weak hs.le (gLr _) (lSa [_,_,_,_] _)) (by simp [Om])⟩) fun m E w hI=>?_
 obtain ⟨k,xs,vq,G2,hk,hxl,hS,rfl,rfl,hs⟩:=hI
 have hS:=hS0.mono hs.le
 refine Wt 2 [] hs rfl<|Zy hs (Yc rfl (fun h38=>?_) fun h38=>?_)
 ·
  refine Wp 8 [0] hs rfl<|Zy hs (Bv hS k underlying100 sizeOf137 rfl rfl rfl oM fun p39 c39 hp39 hc39 hR39 =>Zy hs (Cu (vs:=c39) isAgg137 sizeOf137 rfl hp39 hR39.len<|O_s (Sa hs zeroValue137 rfl fun b9 _ hs=>O_n (Ro hs sizeOf137 rfl rfl (vs:=c39) hR39.len rfl hR39.one fun _ hs =>Wp 3 [0] hs rfl<|Zy hs (Yk 0 rfl hR39.len<|O_s (Sc (Ss hR39 (hst _ (List.getElem_mem _))) hs rfl fun v6 G' H' _ hR hG43 hs=>?_))))))
  obtain ⟨rfl,rfl⟩:=hR
  replace hs:=hs.n rfl
  replace hS:=hS.mono hG43
  replace hR39:=hR39.mono hG43
  refine Wp 3 [] hs rfl<|O_s (Bd hs zeroValue186 (cs:=((List.replicate 16 false).map Bb)) rfl fun b10 _ hs =>O_n (Ro hs sizeOf186 rfl rfl (vs:=_) Z1 Z1 (Bx _) fun _ hs =>Wp 3 [0] hs rfl<|Bc [0,1,2,3,4,5] hs kR ?_))
  replace hs:=hs.drew
  refine Xt 0 hs rfl (Yk 4 rfl ((List.length_map _).trans hxl)<|Xt 1 hs rfl (Yk 1 rfl hR39.len<|Xt 4 hs rfl (Yk 0 rfl ((List.length_map _).trans (Bh _)) ?_)))
  have hle:=hs.le
  refine Xo 2 rfl (Sc (Wj hR39 (hst _ (List.getElem_mem _))) hs rfl fun v7 G' H' _ hR hG48 hs=>?_)
  obtain ⟨rfl,rfl⟩:=hR
  replace hs:=hs.n rfl
  replace hS:=hS.mono hG48
  replace hR39:=hR39.mono hG48
  refine Am hs hle hG48 (lSr _) ?_
  have hle:=hs.le
  refine Xo 3 rfl (Sc (Oj hxl (Ey _)) hs rfl fun v8 G' H' _ hR hG49 hs=>?_)
  obtain ⟨rfl,rfl⟩:=hR
  replace hs:=hs.n rfl
  replace hS:=hS.mono hG49
  replace hR39:=hR39.mono hG49
  refine Am hs hle hG49 (lSr _) ?_
  have hle:=hs.le
  refine Xo 5 rfl (Sc (Oj (Bo hxl (Ey _)) (Bh _)) hs rfl fun v9 G' H' _ hR hG51 hs=>?_)
  obtain ⟨rfl,rfl⟩:=hR
  replace hs:=hs.n rfl
  replace hS:=hS.mono hG51
  replace hR39:=hR39.mono hG51
  refine Am hs hle hG51 (lSr _)<|Xn 6 rfl (Ro hs.f4 sizeOf186 rfl rfl (vs:=_) Z1 Z1 (Bx _) fun _ hs =>Xe (Zk [2,6,7,9,35,36,37] rfl<|Wu 3 [0] hs rfl<|Zy hs (Db 2 isAgg3 rfl rfl (hR39.at0.1)<|Zy hs (Yc rfl (fun h54=>?_) fun h54=>?_))))
  ·
   refine Wp 6 [0,2,4,30] hs rfl<|Zy hs (Db 2 isAgg3 rfl rfl (hR39.at30)<|O_s (Ca hs underlying150 sizeOf9 zeroValue9 rfl rfl dC dC rfl (cs:=[_]) rfl rfl fun v10 _ hs _=>?_))
   obtain ⟨_,hG59,hl59,hs⟩:=hs.fixRow noM
   replace hS:=hS.mono hG59
   refine O_s (Bf hs.f3 underlying150 TI9 rfl dC rfl rfl (hl59) (str_one [p.stmts[k].name]) (by have:=pL (l:=p.stmts) (k:=k);omega) (by have:=pL (l:=p.stmts) (k:=k);simp;omega) fun v11 _ hs =>Wp 1 [2] hs rfl<|O_n (Sd hs.f4 rfl (hs.f4.rowOne 1 rfl) fun _ hs=>Wp 2 [0] hs rfl<|Zy hs (Ya (s:=((k+1:Nat):Int)) rfl<|Wp 1 [] hs rfl ?_)))
   have hs:=hs.f5.f3.f2.f3
   refine Zx [2,6,7,35,36,37] rfl ⟨k+1,(Jh (Jh xs (Qp p.stmts[k])) (Gd p.stmts[k]).1),v11,_,by omega,Bo (Bo hxl (Ey _)) (Bh _),hS,rfl,rfl,Bz (hs.weak hs.le (gLr _) (lSa [_,_,_,_] _)) (by rw [fldN_T oM h54];simp [Hr])⟩
  refine Wp 4 [0] hs rfl<|Zy hs (Ya (s:=((k+1:Nat):Int)) rfl<|Wp 1 [] hs rfl ?_)
  have hs:=hs.f5.f1.f5.f5
  refine Zx [2,6,7,35,36,37] rfl ⟨k+1,(Jh (Jh xs (Qp p.stmts[k])) (Gd p.stmts[k]).1),vq,_,by omega,Bo (Bo hxl (Ey _)) (Bh _),hS,rfl,rfl,Bz (hs.weak hs.le (gLr _) (lSa [_,_,_,_] _)) (by rw [fldN_F oM h54])⟩
 refine Wp 4 [0] hs rfl ?_
 obtain rfl:k=p.stmts.length:=by omega
 rw [List.take_length] at hs
 refine Wu 4 [2,1] hs rfl<|O_s (Sc (srts_ok hn12 hsr) hs rfl fun v12 G' H' _ hR hG65 hs=>?_)
 obtain rfl:=hR
 replace hs:=hs.n rfl
 refine Wp 5 [0,2,1] hs rfl<|O_s (Sc (cmps_ok hn12 hsr) hs rfl fun v13 G' H' _ hR hG68 hs=>?_)
 obtain ⟨he68,rfl⟩:=hR
 replace hs:=hs.n rfl
 obtain rfl:=he68.symm
 refine Wp 1 [2] hs rfl<|O_n (Sd hs.f1 rfl (hs.f1.rowOne 1 rfl) fun _ hs=>Wp 4 [0] hs rfl<|Zy hs (Yk 2 rfl ((List.length_map _).trans hxl)<|Wp 2 [0] hs rfl ?_))
 have hs:=hs.f3.f1.f2
 refine Zl [2,7,70,71] (fun m E w=>∃ (i:Nat) (z1 z2:Int) (G2:Ghost),i≤16∧m=16-i∧E=⟨[],[(2,Vp b2),(7,Vp b7),(70,(.agg (xs.map Bb).toArray)),(71,Vi (i:Int))]⟩∧St ⟨w0,G,Bl []⟩ G2 [.row 9 1 vq (Om p.stmts).length ((Om p.stmts).map Hr),.blk b7 152 [Vi z1,Vi z2,vq],.blk b2 152 [Vi 0,Vi 0,Vn]] w) rfl (⟨0,0,0,_,by omega,rfl,rfl,hs.weak hs.le (gLr _) (lSa [_,_,_] _)⟩) fun m E w hI=>?_
 obtain ⟨i,z1,z2,G2,hi,rfl,rfl,hs⟩:=hI
 refine Wt 2 [] hs rfl<|Zy hs (Yc rfl (fun h72=>?_) fun h72=>?_)
 ·
  refine Wp 9 [0] hs rfl ?_
  obtain ⟨q74,hq74⟩:∃ q,q=xs[i]'oM:=⟨_,rfl⟩
  refine Zy hs (Rn i underlying186 isAgg4 sizeOf4 rfl rfl rfl oM (yP hq74) ?_)
  cases q74
  ·
   refine Wp 22 [0,0,0] hs rfl<|Zy hs (Ya (s:=((i+1:Nat):Int)) rfl<|Wp 1 [] hs rfl ?_)
   have hs:=hs.f2.f2.f2
   refine Zx [2,7,70,71] rfl ⟨i+1,_,_,_,by omega,rfl,rfl,hs.weak hs.le (gLr _) (lSa [_,_,_] _)⟩
  refine Wp 9 [0] hs rfl<|Zg hs rfl (Yc rfl (fun h79=>?_) fun h79=>?_)
  ·
   refine Wp 6 [0] hs rfl<|Zy hs (Ya (s:=((i+1:Nat):Int)) rfl<|Wp 1 [0] hs rfl<|O_n (Sd hs.f1 rfl rfl fun _ hs=>Wp 2 [0] hs rfl<|Zy hs (Ya (s:=((i+1:Nat):Int)) rfl<|Wp 1 [] hs rfl ?_)))
   have hs:=hs.f2.f1.f2
   refine Zx [2,7,70,71] rfl ⟨i+1,_,_,_,by omega,rfl,rfl,hs.weak hs.le (gLr _) (lSa [_,_,_] _)⟩
  refine Wp 12 [0,0] hs rfl<|Zy hs (Ya (s:=((i+1:Nat):Int)) rfl<|Zy hs (Fc (c:=(((i+1:Nat):Int) - 12)) rfl rfl oM oM<|Wp 1 [1] hs rfl<|O_n (Sd hs.f1 rfl rfl fun _ hs=>Wp 2 [0] hs rfl<|Zy hs (Ya (s:=((i+1:Nat):Int)) rfl<|Wp 1 [] hs rfl ?_))))
  have hs:=hs.f2.f1.f2
  refine Zx [2,7,70,71] rfl ⟨i+1,_,_,_,by omega,rfl,rfl,hs.weak hs.le (gLr _) (lSa [_,_,_] _)⟩
 refine Wp 4 [0] hs rfl<|Wu 3 [1] hs rfl<|O_n (Es hs.f2 sizeOf152 rfl rfl (vs:=[_,_,_]) rfl (by simp only [List.all_cons,List.all_nil,hs.f2.rowOne 1 rfl];rfl) sM (cs':=[_,_,_]) rfl fun _ hs =>Wp 2 [0] hs rfl<|Ah ?_)
 have hr:=hs
 refine Bi (vs:=[_,_]) results86 rfl ⟨Bk 0 hr isAgg152 sizeOf152 rfl (cs:=[_,_,_]) rfl rfl,rfl,trivial⟩ ?_
 try dsimp only [tup]
 have hv1:=hs.rowOne 1 rfl
 exact ⟨_,[],hs.done,rfl,_,_,_,rfl,by simp only [List.all_cons,List.all_nil,hv1];rfl⟩
theorem yQ {G:Ghost} :
  Ai prog 86 [.agg #[Vn,Vn]] G [] fun r _ H'=>H'=[]∧∃ a b c,r=.tuple #[.agg #[a,b,c],Vi 1]∧([a,b,c].all fun x=>x.oneCell')=true:=by
 refine Ai.of_T [(0,_)] func86 rfl ntmps86 sM rfl fun w0 hs =>Wt 2 [] hs rfl<|O_s (Sb hs rfl fun b1 _ hs=>O_s (Sa hs zeroValue152 rfl fun b2 _ hs=>Wp 6 [0,1] hs rfl<|O_s (Sc (yA) hs rfl fun v1 G' H' _ hR hG15 hs=>?_)))
 obtain ⟨rfl,rfl⟩:=hR
 replace hs:=hs.n rfl
 refine Wp 10 [0,0] hs rfl<|Zy hs (Ba zeroValue152 rfl PL152 rfl (cs:=[_,_,_]) rfl<|Wp 1 [] hs rfl<|O_n (Sg hs rfl (rfl) fun _ hs=>Wp 2 [0] hs rfl<|Ah ?_))
 have hr:=hs
 refine Bi (vs:=[_,_]) results86 rfl ⟨Bk 0 hr isAgg152 sizeOf152 rfl (cs:=[_,_,_]) rfl rfl,rfl,trivial⟩ ?_
 try dsimp only [tup]
 exact ⟨_,[],hs.done,rfl,_,_,_,rfl,rfl⟩
end Go.Proofs.YtngdgnolkilheaaGreatDoor
