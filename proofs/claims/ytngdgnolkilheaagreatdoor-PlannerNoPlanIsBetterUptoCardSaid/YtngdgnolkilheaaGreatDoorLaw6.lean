/- The walk of the law PlannerNoPlanIsBetter: the call returns true, whatever its arguments read, and changes nothing. -/
import Derived.Test.YtngdgnolkilheaaGreatDoorMI
set_option maxHeartbeats 4000000
set_option maxRecDepth 10000
set_option linter.unusedVariables false
set_option linter.unusedSimpArgs false
set_option linter.unusedSectionVars false
namespace Go.Ex
open Go Go.RowKit Go.ChangeShapes Go.WideShapes Go.ChangeAt
section
variable {H:Type} {enc:TypeId×Value→H} {P:Program}
theorem nS {W:World} {t e:TypeId} {k:IntKind} {fuel:Nat} {cs:List Value} {x:DataW H×List MemPlace} (ht:P.underlying t=some (.array 2 e)) (he:P.underlying e=some (.int k)) (hc1:P.cellsOf e=1) (hl:cs.length=2)
  (h:DataW.trod enc P W 0 (fun _=>true) true fuel t cs=some x):∃ za zb:Int,cs=[.int k za,.int k zb]∧(Lit.int k za).wf=true∧(Lit.int k zb).wf=true:=by
 obtain ⟨xs,m,_,_,_,hn,hx⟩:=DataW.trod_array ht h
 match cs,hl with
 | [c0,c1],_ =>
  have h0:=hx 0 Ec
  have h1:=hx 1 Ec
  rw [hc1] at h0 h1
  have e0:∃ y,DataW.trod enc P W 0 (fun _=>true) true m e [c0]=some y:=⟨xs[0]'Ec,by rw [← List.getElem?_eq_getElem];simpa using h0⟩
  have e1:∃ y,DataW.trod enc P W 0 (fun _=>true) true m e [c1]=some y:=⟨xs[1]'Ec,by rw [← List.getElem?_eq_getElem];simpa using h1⟩
  obtain ⟨y0,e0⟩:=e0
  obtain ⟨y1,e1⟩:=e1
  obtain ⟨za,rfl,wa⟩:=Oi he e0
  obtain ⟨zb,rfl,wb⟩:=Oi he e1
  exact ⟨za,zb,rfl,wa,wb⟩
end
section
variable {H:Type} {enc:TypeId×Value→H} {P:Program}
theorem pair_val {W:World} {t e:TypeId} {k:IntKind} {r:Reach} {b0:Nat} {v:Value} {fuel:Nat} {x:DataW H×List MemPlace} (ht:P.underlying t=some (.array 2 e)) (he:P.underlying e=some (.int k)) (hc:P.cellsOf t=2) (hc1:P.cellsOf e=1)
  (hv:Value.okWide P W r b0 t v) (h:DataW.trod enc P W 0 (fun _=>true) true fuel t v.cells.toList=some x):∃ za zb:Int,v=.agg #[.int k za,.int k zb]∧(Lit.int k za).wf=true∧(Lit.int k zb).wf=true:=by
 obtain ⟨_,_,_,_,hl,_⟩:=DataW.trod_array ht h
 have hagg:∃ cs,v=.agg cs:=by
  simp only [Value.okWide,ht] at hv
  cases v<;>simp_all
 obtain ⟨cs,rfl⟩:=hagg
 have hl2:cs.toList.length=2:=hl.trans hc
 obtain ⟨za,zb,h1,h2,h3⟩:=nS ht he hc1 hl2 h
 exact ⟨za,zb,by rw [← Array.toArray_toList (xs:=cs)];exact congrArg (fun l:List Value=>Value.agg l.toArray) h1,h2,h3⟩
end
end Go.Ex
namespace Pl
open Go.Ex
def lexN (a b:List Nat):Prop:=∃ p x y s t,a=p++x::s∧b=p++y::t∧x<y
theorem qZ:∀ (f:Nat) (p l:List Nat),l.length=f→l.Pairwise (·<·)→(Em f p l).Pairwise lexN
 | 0,p,l,_,_=>by rw [Em];exact List.pairwise_singleton _ _
 | f+1,p,l,hl,hs=>by
  rw [Em]
  split
  ·exact List.pairwise_singleton _ _
  ·rw [List.pairwise_flatMap]
   refine ⟨fun i hi=>?_,?_⟩
   ·rw [List.mem_range] at hi
    exact qZ f _ _ (by rw [List.length_eraseIdx_of_lt hi];omega) (hs.sublist (List.eraseIdx_sublist _ _))
   ·refine List.Pairwise.imp_of_mem ?_ (List.pairwise_lt_range (n:=l.length))
    intro i j hi hj hij x hx y hy
    rw [List.mem_range] at hi hj
    obtain ⟨q,rfl,_⟩:=Mi f _ _ x (by rw [List.length_eraseIdx_of_lt hi];omega) hx
    obtain ⟨q',rfl,_⟩:=Mi f _ _ y (by rw [List.length_eraseIdx_of_lt hj];omega) hy
    refine ⟨p,l.getD i 0,l.getD j 0,q,q',by simp,by simp,?_⟩
    rw [List.getD_eq_getElem?_getD,List.getElem?_eq_getElem hi,List.getD_eq_getElem?_getD,List.getElem?_eq_getElem hj]
    exact (List.pairwise_iff_getElem.1 hs) i j hi hj hij
def Ju:List Nat→List Nat→Bool
 | a::x,b::y=>if a=b then Ju x y else decide (a<b)
 | _,_=>false
theorem eJ:∀ a:List Nat,Ju a a=false
 | []=>rfl
 | a::x=>by rw [Ju,if_pos rfl];exact eJ x
theorem less_lex {a b:List Nat} (h:lexN a b):Ju b a=false:=by
 obtain ⟨p,x,y,s,t,rfl,rfl,hxy⟩:=h
 induction p with
 | nil=>rw [List.nil_append,List.nil_append,Ju,if_neg Ec];exact decide_eq_false Ec
 | cons z p ih=>rw [List.cons_append,List.cons_append,Ju,if_pos rfl];exact ih
theorem kW {c:List Nat→List Int} {l:List (List Nat)} {o q:List Nat} {a b:List (List Nat)} {C:List Int} (hl:l.Pairwise lexN) (hc:∀ o,(c o).Nodup) (he:l=a++o::b) (h1:∀ x∈l,(c o).length≤(c x).length) (h2:∀ x∈a,(c o).length<(c x).length)
  (hq:q∈l) (hC:∀ e∈c q,e∈C):(c o).length<C.length∨(C.length=(c o).length∧Ju q o=false):=by
 have h3:=qQ (hc q) hC
 have h4:=h1 q hq
 rcases Nat.lt_or_ge (c o).length C.length with h | h
 ·exact .inl h
 ·refine .inr ⟨by omega,?_⟩
  rw [he] at hq hl
  rcases List.mem_append.1 hq with hq | hq
  ·have:=h2 q hq;omega
  ·rcases List.mem_cons.1 hq with rfl | hq
   ·exact eJ _
   ·rw [List.pairwise_append,List.pairwise_cons] at hl
    exact less_lex (hl.2.1.1 q hq)
end Pl
namespace Go.Proofs.YtngdgnolkilheaaGreatDoor
open Go Go.Ex Go.RowKit Go.Proofs.Tryz
open Pl
theorem gN:∀ (f:Nat) (p l:List Nat),Em f p l=(Em f [] l).map fun q=>p++q
  | 0,p,l=>by rw [Em,Em];simp
  | f+1,p,l=>by
    rw [Em,Em]
    split
    · simp
    · rw [List.map_flatMap]
      congr 1;funext i
      rw [gN f (p++[l.getD i 0]),gN f ([]++[l.getD i 0]),List.map_map]
      congr 1;funext q;simp
def nT (f:Nat) (l:List Nat) (i:Nat):List (List Nat):=(Em f [] (l.eraseIdx i)).map fun q=>[l.getD i 0]++q
theorem ord_rows {f:Nat} {l:List Nat} (h:¬ l=[]):Em (f+1) [] l=(List.range l.length).flatMap (nT f l):=by
  rw [Ph h];congr 1;funext i;exact gN f _ _
def fac:Nat→Nat
  | 0=>1
  | n+1=>(n+1)*fac n
theorem Xg {α:Type} (g:Nat→List α) (c:Nat):∀ n,(∀ i,i<n→(g i).length≤c)→((List.range n).flatMap g).length≤n*c
  | 0,_=>by simp
  | n+1,h=>by rw [Pl.flat_len,Nat.succ_mul];have:=Xg g c n (fun i hi=>h i oM);have:=h n oM;omega
theorem ord_le:∀ (f:Nat) (p l:List Nat),l.length=f→(Em f p l).length≤fac f
  | 0,p,l,_=>Nat.le_refl _
  | f+1,p,l,hl=>by
    have hne:¬ l=[]:=fun e=>by rw [e] at hl;cases hl
    rw [Ph hne]
    refine Nat.le_trans (Xg _ (fac f) _ fun i hi=>ord_le f _ _ (by rw [List.length_eraseIdx_of_lt hi];omega)) ?_
    rw [hl];exact Nat.le_refl _
theorem fac_le:∀ f,f<7→fac f≤720:=by decide
theorem gO {f:Nat} {p l:List Nat} (h:l.length=f) (h6:f≤6):(Em f p l).length≤720:=Nat.le_trans (ord_le f p l h) (fac_le f oM)
theorem ord_size {f:Nat} {l o:List Nat} (h:l.length=f) (ho:o∈Em f [] l):o.length=f:=by
  obtain ⟨q,e,hq⟩:=Mi f [] l o h ho
  rw [e,List.length_append,hq.length_eq,h];exact Nat.zero_add _
theorem rA {f:Nat} {l:List Nat} (h:l.length=f+1) (h6:f≤6) (i:Nat) (hi:i<l.length):(nT f l i).length≤720:=by
  unfold nT;rw [List.length_map];exact gO (by rw [List.length_eraseIdx_of_lt hi];omega) h6
theorem uE {l:List Nat} {i:Nat}:((l.map fun x:Nat=>(x:Int)).drop 0).take (i-0)++((l.map fun x:Nat=>(x:Int)).drop (i+1)).take (l.length-(i+1))=(l.eraseIdx i).map fun x:Nat=>(x:Int):=by
  have:=bH (l:=l) (i:=i)
  simpa using this
def RordV (f:Nat):Prop:=∀ (G:Ghost) (A:Option Addr) (c:Nat) (l:List Nat),l.length=f→f≤6→Cg G (.slice A l.length c) l→Ai Tryz.prog 33 [.slice A l.length c] G [] fun r G' H'=>H'=[]∧LN G' r (Em f [] l)
theorem rord_ok {G:Ghost} {fu:Nat} {A:Option Addr} {c:Nat} {l:List Nat} (hfl:l.length=fu) (hf6:fu≤6) (hI:∀ f',fu=f'+1→RordV f') (hl:Cg G (.slice A l.length c) l) :
  Ai Tryz.prog 33 [.slice A l.length c] G [] fun r G' H'=>H'=[]∧LN G' r (Em fu [] l):=by
 refine Ai.of_T [(0,_)] Tryz.func33 rfl Tryz.ntmps33 sM rfl fun w0 hs=>?_
 have hl0:=hl
 refine Wt 9 [0] hs rfl<|Zy hs (Yc rfl (fun h11=>?_) fun h11=>?_)
 ·
  have hnil:l=[]:=List.eq_nil_of_length_eq_zero oM
  refine Wp 4 [0] hs rfl<|O_s (Bq hs Tryz.underlying33 Tryz.sizeOf3 Tryz.zeroValue3 rfl rfl dC dC rfl (cs:=[]) rfl rfl fun v1 _ hs _=>?_)
  have hsN:=hs.fixRow noM
  clear hs
  obtain ⟨_,hG12,hl12,hs⟩:=hsN
  obtain ⟨A12,c12,rfl,_⟩:=id hl12
  refine O_s (Bq hs Tryz.underlying41 Tryz.sizeOf33 Tryz.zeroValue33 rfl rfl dC dC rfl (cs:=[_]) rfl rfl fun v2 _ hs _=>?_)
  have hsN:=hs.fixRow noM
  clear hs
  obtain ⟨_,hG13,hl13,hs⟩:=hsN
  replace hl12:=hl12.mono hG13
  obtain ⟨A13,c13,rfl,_⟩:=id hl13
  refine Wp 2 [0] hs rfl<|Ah<|Zz Tryz.results33 rfl ?_
  subst hnil
  exact ⟨_,[],hs.done,rfl,by rw [gF rfl];exact Ej.fin hl13 rfl ⟨(Cg.ofSl hl12 rfl rfl:Cg _ _ []),trivial⟩⟩
 have hne:¬ l=[]:=fun h=>h11 (by rw [h];rfl)
 obtain ⟨f',rfl⟩:∃ f',fu=f'+1:=⟨fu-1,by omega⟩
 replace hI:=hI f' rfl
 refine Wp 5 [0] hs rfl<|O_s (Bq hs Tryz.underlying41 Tryz.sizeOf33 Tryz.zeroValue33 rfl rfl dC dC rfl (cs:=[]) rfl rfl fun v3 _ hs shl=>?_)
 obtain ⟨bl14,rfl⟩:=shl
 refine Wp 7 [0,0] hs rfl<|Zl [0,3,4] (fun m E w=>∃ (i:Nat) (v3:Value) (us:List Value) (G2:Ghost),i≤l.length∧Ej G2 us ((List.range i).flatMap (nT f' l))∧m=l.length-i∧E=⟨[],[(0,.slice A l.length c),(3,v3),(4,Vi (i:Int))]⟩∧St ⟨w0,G,Bl []⟩ G2 [.row 33 1 v3 us.length us] w) rfl (⟨0,_,[],_,by omega,trivial,rfl,rfl,hs⟩) fun m E w hI=>?_
 obtain ⟨i,v3,us,G2,hi,hL,rfl,rfl,hs⟩:=hI
 have hl:=hl0.mono hs.le
 have husl:us.length≤i*720:=by rw [hL.len];exact Xg _ _ _ fun j hj=>rA oM oM j oM
 refine Wt 6 [] hs rfl<|Zy hs (Yc rfl (fun h18=>?_) fun h18=>?_)
 ·
  refine Wp 7 [0] hs rfl<|O_s (Bq hs Tryz.underlying33 Tryz.sizeOf3 Tryz.zeroValue3 rfl rfl dC dC rfl (cs:=[]) rfl rfl fun v4 _ hs shl=>?_)
  obtain ⟨bl21,rfl⟩:=shl
  refine Wp 2 [] hs rfl<|Zy hs (Ht (Nu hl) 0 i Tryz.underlying33 Tryz.sizeOf3 rfl rfl ⟨_,_,rfl,rfl⟩ oM Ii fun s24 hs24=>?_)
  obtain ⟨A24,c24,rfl,_⟩:=id hs24
  refine O_s (Bd hs Tryz.underlying33 Js rfl dC rfl rfl (hs24) (Ja) Ii Ii fun v5 _ hs =>Wp 7 [0] hs rfl<|Zy hs (Ya (s:=((i+1):Int)) rfl<|Zy hs (Ht (Nu hl) (i+1) l.length Tryz.underlying33 Tryz.sizeOf3 rfl ⟨_,_,rfl,rfl⟩ (by simp [bnd]) oM sM fun s30 hs30=>?_)))
  obtain ⟨A30,c30,rfl,_⟩:=id hs30
  refine O_s (Bd hs Tryz.underlying33 Js rfl dC rfl rfl (hs30) (Ja) Ii Ii fun v6 _ hs =>Wp 2 [0] hs rfl ?_)
  have hsN:=hs.fixRow noM
  clear hs
  obtain ⟨_,hG_her,her,hs⟩:=hsN
  replace hl:=hl.mono hG_her
  replace hL:=hL.mono hG_her
  have hen:Cg _ _ (l.eraseIdx i):=intsN (Nc her (by simp [List.length_eraseIdx_of_lt (show i<l.length by omega)];omega) (by rw [List.nil_append,← List.map_append,uE]))
  clear her
  obtain ⟨A5,c5,rfl,_⟩:=id hen
  refine Wu 3 [] hs rfl<|O_s (Sc (hI _ _ _ _ (by rw [List.length_eraseIdx_of_lt oM];omega) oM hen) hs rfl fun v7 G' H' _ hR hG33 hs=>?_)
  obtain ⟨rfl,hB⟩:=hR
  replace hs:=hs.n rfl
  replace hl:=hl.mono hG33
  replace hL:=hL.mono hG33
  obtain ⟨B,hBe⟩:∃ B,B=(Em f' [] (l.eraseIdx i)):=⟨_,rfl⟩
  rw [← hBe] at hB
  obtain ⟨A33,c33,rfl⟩:=Bg.slice hB
  have hB720:B.length≤720:=by rw [hBe];exact gO (by rw [List.length_eraseIdx_of_lt oM];omega) oM
  refine Wp 6 [0,0] hs rfl ?_
  obtain ⟨Gp1,hGp⟩:=hs.name
  subst hGp
  have hB_1:=hB
  refine Zl [0,3,4,6,7] (fun m E w=>∃ (k:Nat) (v3:Value) (us:List Value) (G2:Ghost),k≤B.length∧Ej G2 us (((List.range i).flatMap (nT f' l))++(B.take k).map fun q=>[l.getD i 0]++q)∧Pr Gp1 G2∧m=B.length-k∧E=⟨[],[(0,.slice A l.length c),(3,v3),(4,Vi (i:Int)),(6,.slice A33 B.length c33),(7,Vi (k:Int))]⟩∧St ⟨w0,G,Bl []⟩ G2 [.row 33 1 v3 us.length us] w) rfl (⟨0,v3,us,_,by omega,by simpa using hL,Pr.refl _,rfl,rfl,hs⟩) fun m E w hI=>?_
  obtain ⟨k,v3,us,G2,hk,hL,hlg1,rfl,rfl,hs⟩:=hI
  have hB:=hB_1.mono hlg1
  have hl:=hl0.mono hs.le
  have husk:us.length≤i*720+k:=by rw [hL.len,List.length_append,List.length_map,List.length_take];have:=Xg (nT f' l) 720 i (fun j hj=>rA oM oM j oM);omega
  refine Wt 6 [] hs rfl<|Zy hs (Yc rfl (fun h37=>?_) fun h37=>?_)
  ·
   refine Wp 3 [0] hs rfl ?_
   have hbk:(B[k]'oM).length≤6:=by have:=ord_size (f:=f') (l:=l.eraseIdx i) (o:=B[k]'oM) (by rw [List.length_eraseIdx_of_lt oM];omega) (by rw [← hBe];exact List.getElem_mem _);omega
   refine Wu 3 [] hs rfl<|Bc [0,1,2,3,4,5,6,7,8] hs kR ?_
   replace hs:=hs.drew
   refine Xr [0,1] [] hs rfl<|Xt 2 hs rfl (Eg hl i Tryz.underlying33 Tryz.sizeOf3 rfl rfl rfl oM fun p42 hp42=>?_)
   rw [show l[i]'oM=l.getD i 0 from by rw [List.getD_eq_getElem?_getD,List.getElem?_eq_getElem oM];rfl] at hp42
   refine Xt 3 hs rfl (Yg rfl (hp42)<|Xr [5,6] [] hs rfl<|Xt 7 hs rfl (Bx hB k Tryz.underlying41 Tryz.sizeOf33 rfl rfl rfl oM fun p47 c47 hp47 hc47 hR47=>?_))
   obtain ⟨u47,rfl,hv47⟩:=hR47
   obtain ⟨Av47,cv47,rfl,_⟩:=id hv47
   refine Xt 8 hs rfl (Yg rfl (hp47 0 _ rfl) ?_)
   have hle:=hs.le
   refine Xo 4 rfl (Bq hs Tryz.underlying33 Tryz.sizeOf3 Tryz.zeroValue3 rfl rfl dC dC rfl (cs:=[_]) rfl rfl fun v8 _ hs shl=>?_)
   obtain ⟨bl44,rfl⟩:=shl
   refine Ba hs hle (Ghost.le.refl _) (List.sublist_cons_self _ _)<|Xa 9 rfl (Bd hs Tryz.underlying33 Js rfl dC rfl rfl (hv47) ((Ou _)) (by have:=hbk;omega) (by have:=hbk;simp;omega) fun v9 _ hs =>Xa 10 rfl (S_y hs rfl (Yq rfl<|Xe (Zk [0,3,4,6,7,8] rfl ?_))))
   have hsN:=hs.fixRow noM
   clear hs
   obtain ⟨_,hG_hyr,hyr,hs⟩:=hsN
   replace hL:=hL.mono hG_hyr
   replace hlg1:=hlg1.mono hG_hyr
   have hy:Cg _ _ ([l.getD i 0]++B[k]'oM):=Cg.ofSl hyr Ii sM
   clear hyr
   obtain ⟨A8,c8,rfl,_⟩:=id hy
   refine Wu 3 [] hs rfl<|O_s (Bq hs Tryz.underlying41 Tryz.sizeOf33 Tryz.zeroValue33 rfl rfl dC dC rfl (cs:=[_]) rfl rfl fun v10 _ hs _=>?_)
   obtain ⟨_,hG52,hl52,hs⟩:=hs.fixRow noM
   replace hL:=hL.mono hG52
   replace hlg1:=hlg1.mono hG52
   replace hy:=hy.mono hG52
   refine O_s (Bd hs Tryz.underlying41 cG rfl dC rfl rfl (hl52) (Ek rfl) oM oM fun v11 _ hs =>Wp 4 [0] hs rfl<|Zy hs (Ya (s:=((k+1:Nat):Int)) rfl<|Wp 1 [] hs rfl<|Zx [0,3,4,6,7] rfl ⟨k+1,_,us++[_],_,by omega,by rw [Ee oM,List.map_append,← List.append_assoc];exact hL.snoc hy,hlg1,rfl,rfl,Bw hs sM⟩))
  refine Wp 3 [0] hs rfl<|Wu 2 [] hs rfl<|Zy hs (Ya (s:=((i+1:Nat):Int)) rfl<|Wp 1 [] hs rfl ?_)
  obtain rfl:k=B.length:=by omega
  rw [List.take_length,hBe] at hL
  refine Zx [0,3,4] rfl ⟨i+1,_,_,_,by omega,by rw [List.range_succ,List.flatMap_append];simpa [nT] using hL,rfl,rfl,hs⟩
 refine Wp 3 [0] hs rfl<|Wu 5 [0] hs rfl<|Ah ?_
 obtain rfl:i=l.length:=by omega
 obtain ⟨_,hG_hfr,hfr,hs⟩:=hs.fixRow noM
 replace hL:=hL.mono hG_hfr
 refine Zz Tryz.results33 rfl ?_
 exact ⟨_,[],hs.done,rfl,by rw [ord_rows hne];exact Ej.fin hfr hL.len hL⟩
theorem rordV:∀ n,RordV n
  | n,G,A,c,l,hl,h6,hN=>rord_ok hl h6 (fun f' h=>rordV f') hN
termination_by n=>n
decreasing_by omega
end Go.Proofs.YtngdgnolkilheaaGreatDoor
namespace Go.Proofs.YtngdgnolkilheaaGreatDoor
open Go Go.Ex Go.RowKit Go.Proofs.Tryz
open Pl
theorem Ve {a b:List Nat} {k:Nat} (h1:k<a.length) (h2:k<b.length):Ju (a.drop k) (b.drop k)=if a[k]=b[k] then Ju (a.drop (k+1)) (b.drop (k+1)) else decide (a[k]<b[k]):=by
  rw [List.drop_eq_getElem_cons h1,List.drop_eq_getElem_cons h2,Ju]
theorem kX {a b:List Nat} {k:Nat} (h:a.length≤k∨b.length≤k):Ju (a.drop k) (b.drop k)=false:=by
  rcases h with h | h
  · rw [List.drop_eq_nil_of_le h];cases b.drop k<;>rfl
  · rw [List.drop_eq_nil_of_le h];cases a.drop k<;>rfl
theorem lesn_ok {G:Ghost} {Aa Ab:Option Addr} {ca cb:Nat} {a b:List Nat} (ha:Cg G (.slice Aa a.length ca) a) (hb:Cg G (.slice Ab b.length cb) b) (hal:a.length≤1000) (hbl:b.length≤1000) :
  Ai Tryz.prog 24 [.slice Aa a.length ca,.slice Ab b.length cb] G [] fun r _ H'=>H'=[]∧r=.bool (Ju a b):=by
 refine Ai.of_T [(0,_),(1,_)] Tryz.func24 rfl Tryz.ntmps24 sM rfl fun w0 hs=>?_
 have ha0:=ha
 have hb0:=hb
 refine Wt 9 [0,0] hs rfl<|Zl [0,1,5] (fun m E w=>∃ (k:Nat) (G2:Ghost),k≤a.length∧Ju (a.drop k) (b.drop k)=Ju a b∧m=a.length-k∧E=⟨[],[(0,.slice Aa a.length ca),(1,.slice Ab b.length cb),(5,Vi (k:Int))]⟩∧St ⟨w0,G,Bl []⟩ G2 [] w) rfl (⟨0,_,by omega,rfl,rfl,rfl,hs⟩) fun m E w hI=>?_
 obtain ⟨k,G2,hk,hke,rfl,rfl,hs⟩:=hI
 have ha:=ha0.mono hs.le
 have hb:=hb0.mono hs.le
 refine Wt 6 [] hs rfl<|Zy hs (Yc rfl (fun h9=>?_) fun h9=>?_)
 ·
  refine Wp 4 [] hs rfl<|Zg hs rfl (Yc rfl (fun h14=>?_) fun h14=>?_)
  ·
   refine Wp 7 [0] hs rfl<|Bc [0,1,2,3,4,5,6,7,8] hs kR ?_
   replace hs:=hs.drew
   refine Xr [0,1] [] hs rfl<|Xt 2 hs rfl (Eg ha k Tryz.underlying33 Tryz.sizeOf3 rfl rfl rfl oM fun p20 hp20 =>Xt 3 hs rfl (Yg rfl (hp20)<|Xr [4,5] [] hs rfl<|Xt 6 hs rfl (Eg hb k Tryz.underlying33 Tryz.sizeOf3 rfl rfl rfl oM fun p24 hp24 =>Xt 7 hs rfl (Yg rfl (hp24)<|Xt 8 hs rfl (Iq rfl rfl rfl (fun h26=>?_) (fun h26=>?_))))))
   ·
    dsimp only [Gl] at h26
    refine Xe (Zk [0,1,5,26] rfl<|Wu 2 [] hs rfl<|Bc [0,1,2,3,4,5,6,7,8,9] hs kR ?_)
    replace hs:=hs.drew
    refine Xr [0,1] [] hs rfl<|Xt 2 hs rfl (Eg ha k Tryz.underlying33 Tryz.sizeOf3 rfl rfl rfl oM fun p29 hp29 =>Xt 3 hs rfl (Yg rfl (hp29)<|Xr [4,5] [] hs rfl<|Xt 6 hs rfl (Eg hb k Tryz.underlying33 Tryz.sizeOf3 rfl rfl rfl oM fun p33 hp33 =>Xt 7 hs rfl (Yg rfl (hp33)<|Xt 8 hs rfl (Iq rfl rfl rfl (fun h35=>?_) (fun h35=>?_))))))
    ·
     dsimp only [Gl] at h35
     refine Xr [9] [] hs rfl<|Xe (Zk [4] rfl<|Ah<|Zz Tryz.results24 rfl ?_)
     have hld:=Ve (a:=a) (b:=b) (k:=k) oM oM
     rw [if_neg oM,hke] at hld
     exact ⟨_,[],hs.done,rfl,congrArg Value.bool (by rw [hld];exact (decide_eq_true oM).symm)⟩
    dsimp only [Gl] at h35
    refine Xr [9] [] hs rfl<|Xe (Zk [4] rfl<|Ah<|Zz Tryz.results24 rfl ?_)
    have hld:=Ve (a:=a) (b:=b) (k:=k) oM oM
    rw [if_neg oM,hke] at hld
    exact ⟨_,[],hs.done,rfl,congrArg Value.bool (by rw [hld];exact (decide_eq_false oM).symm)⟩
   dsimp only [Gl] at h26
   refine Xe (Zk [0,1,5,26] rfl<|Wu 4 [] hs rfl<|Zy hs (Ya (s:=((k+1:Nat):Int)) rfl<|Wp 1 [] hs rfl ?_))
   have hld:=Ve (a:=a) (b:=b) (k:=k) oM oM
   rw [if_pos oM] at hld
   refine Zx [0,1,5] rfl ⟨k+1,_,by omega,by rw [← hld];exact hke,rfl,rfl,hs⟩
  refine Wp 4 [0] hs rfl<|Wu 4 [0] hs rfl<|Ah<|Zz Tryz.results24 rfl ?_
  exact ⟨_,[],hs.done,rfl,congrArg Value.bool (by rw [← hke];exact (kX oM).symm)⟩
 refine Wp 9 [0] hs rfl<|Wu 4 [0] hs rfl<|Ah<|Zz Tryz.results24 rfl ?_
 exact ⟨_,[],hs.done,rfl,congrArg Value.bool (by rw [← hke];exact (kX oM).symm)⟩
theorem plan_ok {G:Ghost} {Ap An Ae Ar:Option Addr} {cp cn ce cr:Nat} {f:Ca} {Au:Option Addr} {cu:Nat} {nv:List Int} {pk pc:Nat} (hf:Ie G Ap An Ae Ar cp cn ce cr f) (hu:Bv G (.slice Au nv.length cu) nv) (hk:kO f nv) (hp6:pk<65536) (hc6:pc<65536) :
  Ai Tryz.prog 14 [.agg #[.slice Ap f.progs.length cp,.slice An f.nodes.length cn,.slice Ae f.edges.length ce,.slice Ar f.routes.length cr,.slice Au nv.length cu],.int .u16 (pk:Int),.int .u16 (pc:Int)] G [] fun r G' H'=>H'=[]∧∃ Ao Ac co cc o q,r=.agg #[.slice Ao o.length co,.slice Ac q.length cc]∧o∈Em (En f nv).length [] (En f nv)∧q.length≤16∧Cg G' (.slice Ao o.length co) o∧Bv G' (.slice Ac q.length cc) q:=by
 have hez:=hk.g.z.e
 refine Ai.of_T [(0,_),(1,_),(2,_)] Tryz.func14 rfl Tryz.ntmps14 sM rfl fun w0 hs=>?_
 have hf0:=hf
 have hu0:=hu
 refine Wt 2 [] hs rfl<|O_s (Sb hs rfl fun b3 _ hs=>O_s (Sa hs Tryz.zeroValue35 rfl fun b6 _ hs=>Wp 4 [0,1] hs rfl<|O_s (Sc (gK hf hu hk.g.z hk.n) hs rfl fun v1 G' H' _ hR hG11 hs=>?_)))
 obtain ⟨rfl,h11⟩:=hR
 obtain ⟨A11,c11,rfl,_⟩:=id h11
 replace hs:=hs.n rfl
 replace hf:=hf.mono hG11
 replace hu:=hu.mono hG11
 refine O_s (Sc (rordV _ _ _ _ _ rfl hk.u h11) hs rfl fun v2 G' H' _ hR hG12 hs=>?_)
 obtain ⟨rfl,hL⟩:=hR
 replace hs:=hs.n rfl
 replace hf:=hf.mono hG12
 replace hu:=hu.mono hG12
 obtain ⟨xs,hxs⟩:∃ z,z=Em (En f nv).length [] (En f nv):=⟨_,rfl⟩
 rw [← hxs] at hL
 have hx0:0<xs.length:=List.length_pos_iff.2 (by rw [hxs];exact nL rfl)
 have hpk:pk % xs.length<xs.length:=Nat.mod_lt _ hx0
 have hx7:xs.length≤720:=by rw [hxs];exact gO rfl hk.u
 obtain ⟨A12,c12,rfl⟩:=Bg.slice hL
 refine Wp 6 [0] hs rfl<|Zy hs (Df Tryz.underlying25 Tryz.underlying3 (c:=(pk:Int)) rfl Z42<|Wp 2 [] hs rfl<|Zy hs (Ev (c:=((pk % xs.length:Nat):Int)) rfl rfl oM oM (Int.natCast_emod _ _).symm<|Zy hs (Bx hL (pk % xs.length) Tryz.underlying41 Tryz.sizeOf33 rfl rfl rfl hpk fun p19 c19 hp19 hc19 hR19=>?_)))
 obtain ⟨u19,rfl,hv19⟩:=hR19
 obtain ⟨Av19,cv19,rfl,_⟩:=id hv19
 refine Zy hs (Yg rfl (hp19 0 _ rfl)<|Zy hs (Bb Tryz.zeroValue35 rfl bJ rfl (cs:=[_,_]) rfl<|O_s (Sa hs Tryz.zeroValue35 rfl fun b8 _ hs=>O_n (Du hs Tryz.sizeOf35 rfl rfl (vs:=[_,_]) rfl (rfl) sM (cs':=[_,_]) rfl fun _ hs =>Wp 6 [0,0] hs rfl ?_))))
 have hs:=hs.nilRow 3 1
 have hs:=hs.f2.f3.f3.f3
 obtain ⟨Gp0,hGp⟩:=hs.name
 subst hGp
 have hv19_0:=hv19
 refine Zl [2,3,6,8,9] (fun m E w=>∃ (e:Nat) (q:List Int) (vq:Value) (G2:Ghost),e≤f.edges.length∧q.length≤min e 16∧Pr Gp0 G2∧m=f.edges.length-e∧E=⟨[],[(2,.int .u16 (pc:Int)),(3,Vp b3),(6,Vp b6),(8,Vp b8),(9,Vi (e:Int))]⟩∧St ⟨w0,G,Bl []⟩ G2 [.row 3 1 vq q.length (q.map (.int .i64)),.blk b8 35 [.slice Av19 (xs[pk % xs.length]'hpk).length cv19,vq],.blk b3 45 [.slice Ap f.progs.length cp,.slice An f.nodes.length cn,.slice Ae f.edges.length ce,.slice Ar f.routes.length cr,.slice Au nv.length cu],.blk b6 35 [Vn,Vn]] w) rfl (⟨0,[],_,_,by omega,by simp,Pr.refl _,rfl,rfl,hs⟩) fun m E w hI=>?_
 obtain ⟨e,q,vq,G2,hle,hql,hlg0,rfl,rfl,hs⟩:=hI
 have hv19:=hv19_0.mono hlg0
 have hf:=hf0.mono hs.le
 have hu:=hu0.mono hs.le
 refine Wt 8 [0,2,2] hs rfl<|Zy hs (Yc rfl (fun h27=>?_) fun h27=>?_)
 ·
  refine Wp 2 [] hs rfl<|Zg hs rfl (Yc rfl (fun h30=>?_) fun h30=>?_)
  ·
   refine Wp 10 [0] hs rfl<|Zy hs (Vl (c:=((pc / 2 ^ e:Nat):Int)) rfl rfl oM (shr16 _ _ oM)<|Zy hs (Qs (c:=((pc / 2 ^ e % 2:Nat):Int)) rfl rfl sM (bM _)<|Zy hs (Yc rfl (fun h38=>?_) fun h38=>?_)))
   ·
    refine Wp 6 [0,1,1] hs rfl<|O_s (Bq hs Tryz.underlying33 Tryz.sizeOf3 Tryz.zeroValue3 rfl rfl dC dC rfl (cs:=[_]) rfl rfl fun v3 _ hs _=>?_)
    obtain ⟨_,hG42,hl42,hs⟩:=hs.fixRow noM
    replace hlg0:=hlg0.mono hG42
    refine O_s (Bd hs Tryz.underlying33 Js rfl dC rfl rfl (hl42) (Ek rfl) oM Ii fun v4 _ hs =>Wp 1 [1] hs rfl<|O_n (Sd hs.f1 rfl (hs.f1.rowOne 1 rfl) fun _ hs=>Wp 3 [5,2,3,6,8,9] hs rfl<|Zy hs (Ya (s:=((e+1:Nat):Int)) rfl<|Wp 1 [] hs rfl ?_)))
    have hs:=hs.f3.f3.f2.f3
    refine Zx [2,3,6,8,9] rfl ⟨e+1,q++[((e:Nat):Int)],v4,_,by omega,by simp;omega,hlg0,rfl,rfl,Bw (hs.weak hs.le (Ghost.le.refl _) (List.sublist_append_left [_,_,_,_] _)) sM⟩
   refine Wp 5 [0] hs rfl<|Zy hs (Ya (s:=((e+1:Nat):Int)) rfl<|Wp 1 [] hs rfl ?_)
   have hs:=hs.f3.f3.f3.f3
   refine Zx [2,3,6,8,9] rfl ⟨e+1,q,vq,_,by omega,by omega,hlg0,rfl,rfl,hs.weak hs.le (Ghost.le.refl _) (List.sublist_append_left [_,_,_,_] _)⟩
  refine Wp 4 [0] hs rfl ?_
  have hsN:=hs.fixRow noM
  clear hs
  obtain ⟨_,hG_hqr,hqr,hs⟩:=hsN
  replace hv19:=hv19.mono hG_hqr
  have hqI:Bv _ _ q:=Nc hqr rfl rfl
  clear hqr
  obtain ⟨Aq,cq,rfl,_⟩:=id hqI
  refine Wu 3 [0] hs rfl<|O_n (Du hs.f2 Tryz.sizeOf35 rfl rfl (vs:=[_,_]) rfl (rfl) sM (cs':=[_,_]) rfl fun _ hs =>Wp 1 [0] hs rfl<|Ah<|Zz Tryz.results14 (Rb 0 hs rfl rF) ?_)
  exact ⟨_,[],hs.done,rfl,_,_,_,_,_,q,rfl,by rw [← hxs];exact List.getElem_mem hpk,by omega,hv19,hqI⟩
 refine Wp 7 [0] hs rfl ?_
 have hsN:=hs.fixRow noM
 clear hs
 obtain ⟨_,hG_hqr,hqr,hs⟩:=hsN
 replace hv19:=hv19.mono hG_hqr
 have hqI:Bv _ _ q:=Nc hqr rfl rfl
 clear hqr
 obtain ⟨Aq,cq,rfl,_⟩:=id hqI
 refine Wu 3 [0] hs rfl<|O_n (Du hs.f2 Tryz.sizeOf35 rfl rfl (vs:=[_,_]) rfl (rfl) sM (cs':=[_,_]) rfl fun _ hs =>Wp 1 [0] hs rfl<|Ah<|Zz Tryz.results14 (Rb 0 hs rfl rF) ?_)
 exact ⟨_,[],hs.done,rfl,_,_,_,_,_,q,rfl,by rw [← hxs];exact List.getElem_mem hpk,by omega,hv19,hqI⟩
end Go.Proofs.YtngdgnolkilheaaGreatDoor
namespace Go.Proofs.YtngdgnolkilheaaGreatDoor
open Go Go.Ex Go.RowKit Go.Proofs.Tryz
open Pl
theorem uF {f:Ca} {nv:List Int} {s:List (List Bool)} {u:List Int} {o q:List Nat} {C:List Int} (hu:Ig f u) (hbs:Tu (Gq f nv s u) none (Em (En f nv).length [] (En f nv))=some (o,Gq f nv s u o)) (hq:q∈Em (En f nv).length [] (En f nv)) (hC:∀ x∈Gq f nv s u q,x∈C) :
    (Gq f nv s u o).length<C.length∨(C.length=(Gq f nv s u o).length∧Ju q o=false):=by
  obtain ⟨a,b,h1,h2,h3⟩:=Qe hbs
  exact kW (c:=Gq f nv s u) (qZ _ _ _ rfl Wc) (fun o=>kU hu) h1 h2 h3 hq hC
end Go.Proofs.YtngdgnolkilheaaGreatDoor
namespace Go.Proofs.YtngdgnolkilheaaGreatDoor
open Go Go.Ex Go.RowKit Go.Proofs.Tryz
open Pl
theorem lnpb_ok {G:Ghost} {sz p0 p1 p2 p3 n0 n1 n2 n3 n4:UInt8} {ed r0 r1 r2:Nat} {Aw Aq:Option Addr} {cw cq:Nat} {nw:List UInt8} {sf:List Nat} {pk pc:Nat} (hT:Tab G) (hnw:Cv G (.slice Aw nw.length cw) nw) (hsq:kS G (.slice Aq sf.length cq) sf) (he:ed<4294967296) (h0:r0<65536) (h1:r1<65536) (h2:r2<65536) (hp6:pk<65536) (hc6:pc<65536) :
  Ai prog 6 [.agg #[.int .u8 (sz.toNat:Int),.int .u8 (p0.toNat:Int),.int .u8 (p1.toNat:Int),.int .u8 (p2.toNat:Int),.int .u8 (p3.toNat:Int),.int .u8 (n0.toNat:Int),.int .u8 (n1.toNat:Int),.int .u8 (n2.toNat:Int),.int .u8 (n3.toNat:Int),.int .u8 (n4.toNat:Int),.int .u32 (ed:Int),.int .u16 (r0:Int),.int .u16 (r1:Int),.int .u16 (r2:Int),.slice Aw nw.length cw,.slice Aq sf.length cq],.agg #[.int .u16 (pk:Int),.int .u16 (pc:Int)]] G [] fun r _ H'=>H'=[]∧r=Vt:=by
 obtain ⟨f,hfe⟩:∃ z,z=Fq (Vb sz p0 p1 p2 p3 n0 n1 n2 n3 n4 ed r0 r1 r2):=⟨_,rfl⟩
 obtain ⟨nv,hnv⟩:∃ z,z=nN f nw:=⟨_,rfl⟩
 obtain ⟨s,hse⟩:∃ z,z=sfM sf f.progs.length:=⟨_,rfl⟩
 have hk:kO f nv:=by rw [hnv,hfe];exact nQ (Tt (sz:=sz) (p0:=p0) (p1:=p1) (p2:=p2) (p3:=p3) (n0:=n0) (n1:=n1) (n2:=n2) (n3:=n3) (n4:=n4) (ed:=ed) (r0:=r0) (r1:=r1) (r2:=r2) h0 h1 h2)
 have hso:gG f s:=by rw [hse];exact nO
 obtain ⟨u,hU⟩:=gM f
 have hu12:=Tv hU hk.r
 have hu6:=hk.u
 refine Ai.of_T [(0,_),(1,_)] func6 rfl ntmps6 sM rfl fun w0 hs=>?_
 have hnw0:=hnw
 have hsq0:=hsq
 have hT0:=hT
 refine Wt 2 [] hs rfl<|O_s (Sb hs rfl fun b2 _ hs=>O_s (Sb hs rfl fun b3 _ hs=>Wp 4 [0] hs rfl<|O_s (Sc (bQ hT) hs rfl fun v1 G' H' _ hR hG13 hs=>?_)))
 obtain ⟨rfl,rfl⟩:=hR
 replace hs:=hs.n rfl
 replace hnw:=hnw.mono hG13
 replace hsq:=hsq.mono hG13
 replace hT:=hT.mono hG13
 refine Wp 5 [0,1] hs rfl<|O_s (Sc (gL hfe hnv hse hnw hsq he h0 h1 h2) hs rfl fun v2 G' H' _ hR hG16 hs=>?_)
 obtain ⟨rfl,Ap,An,Ae,Ar,cp,cn,ce,cr,Au,cu,vs,rfl,hf,hu,hS⟩:=hR
 replace hs:=hs.n rfl
 replace hT:=hT.mono hG16
 obtain ⟨As,cs,rfl⟩:=Bg.slice hS
 refine Wp 3 [] hs rfl<|O_s (Sa hs zeroValue45 rfl fun b6 _ hs=>O_n (Sg hs rfl (rfl) fun _ hs=>Wp 6 [0,0] hs rfl<|O_s (Sc (Lf hf hu hS hk hT hso hU) hs rfl fun v3 G' H' _ hR hG22 hs=>?_)))
 obtain ⟨rfl,vo,vc,o,rfl,hbs,hoN,hcI⟩:=hR
 replace hs:=hs.n rfl
 replace hT:=hT.mono hG22
 replace hf:=hf.mono hG22
 replace hu:=hu.mono hG22
 replace hS:=hS.mono hG22
 obtain ⟨la,lb,hla,hmin,hlt⟩:=Qe hbs
 have hin:o∈Em (En f nv).length [] (En f nv):=by rw [hla];simp
 obtain ⟨hoin,hol⟩:=bK rfl hin
 obtain ⟨C,hC⟩:∃ z,z=Gq f nv s u o:=⟨_,rfl⟩
 rw [← hC] at hcI
 have hCl:C.length≤12:=by have:=(eH (f:=f) (nv:=nv) (s:=s) (u:=u) (o:=o)).length_le;rw [← hC] at this;omega
 obtain ⟨Ao,co,rfl,_⟩:=id hoN
 obtain ⟨Ac,cc,rfl,_⟩:=id hcI
 refine Wp 3 [] hs rfl<|O_s (Sa hs zeroValue35 rfl fun b8 _ hs=>O_n (Sg hs rfl (rfl) fun _ hs=>Wp 5 [6,3,5,6,7,8,9,1] hs rfl<|Zy hs (Dq 0 underlying36 sizeOf25 rfl rfl rfl dC (m:=0) rfl<|Wp 1 [2] hs rfl<|Zy hs (Dq 1 underlying36 sizeOf25 rfl rfl rfl dC (m:=1) rfl<|Wp 1 [2] hs rfl<|O_s (Sc (plan_ok hf hu hk hp6 hc6) hs rfl fun v4 G' H' _ hR hG30 hs=>?_)))))
 obtain ⟨rfl,Aq,Acq,cq,ccq,oq,q,rfl,hqin,hq16,hqN,hqI⟩:=hR
 replace hs:=hs.n rfl
 replace hT:=hT.mono hG30
 replace hf:=hf.mono hG30
 replace hu:=hu.mono hG30
 replace hS:=hS.mono hG30
 replace hoN:=hoN.mono hG30
 obtain ⟨hqoin,hqol⟩:=bK rfl hqin
 refine O_s (Sa hs zeroValue35 rfl fun b10 _ hs=>O_n (Sg hs rfl (rfl) fun _ hs=>Wp 6 [0,2,0] hs rfl<|O_s (Sc (Qa hf hu hS hqN hqI hU oM oM hk hT hso) hs rfl fun v5 G' H' _ hR hG35 hs=>?_)))
 obtain ⟨rfl,n35,e35,rfl,k0,k310,k1,kn⟩:=hR
 replace hs:=hs.n rfl
 replace hoN:=hoN.mono hG35
 replace hqN:=hqN.mono hG35
 refine Wp 13 [0] hs rfl<|Zg hs rfl (Yc rfl (fun h42=>?_) fun h42=>?_)
 ·
  refine Wp 12 [5,5,8,9,10,43,0] hs rfl<|Ah<|Zz results6 rfl ?_
  exact ⟨_,[],hs.done,rfl,rfl⟩
 refine Wp 4 [5,5,8,9,10,43] hs rfl ?_
 have hnb:C.length<q.length∨(q.length=C.length∧Ju oq o=false):=by rw [hC];exact uF hU hbs hqin (k0.1 oM).2
 refine Wu 8 [1,0,1,1] hs rfl<|Zy hs (Yc rfl (fun h55=>?_) fun h55=>?_)
 ·
  refine Wp 9 [] hs rfl<|Dc 64 rfl rfl<|Dc 64 rfl rfl<|Dc 64 rfl rfl<|Dc 64 rfl rfl<|Dc 64 rfl rfl<|Dc 64 rfl rfl<|Wp 7 [1,4] hs rfl<|Ah<|Zz results6 rfl ?_
  exact ⟨_,[],hs.done,rfl,rfl⟩
 obtain ⟨hqe,hless⟩:=hnb.resolve_left oM
 refine Wp 7 [1,0,1,1] hs rfl<|Zg hs rfl (Hk rfl rfl rfl oM<|Wp 5 [0,0,0,1] hs rfl<|Ci 64 rfl rfl (Sc (lesn_ok hqN hoN oM oM) hs rfl fun v6 G' H' _ hR hG69 hs=>?_))
 obtain ⟨rfl,rfl⟩:=hR
 replace hs:=hs.n rfl
 rw [hless]
 refine Wp 8 [1,4] hs rfl<|Ah<|Zz results6 rfl ?_
 exact ⟨_,[],hs.done,rfl,rfl⟩
end Go.Proofs.YtngdgnolkilheaaGreatDoor
