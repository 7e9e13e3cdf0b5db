/- Part 8 of the walk through the functions that the laws of package fleet call: each function's contract, without conditions but those that its statement names. -/
import Derived.Test.YtngdgnolkilheaaGreatDoorMG
import Derived.Shelf.SlSortCmp.WholeK
import Derived.Test.YtngdgnolkilheaaGreatDoorShelf
set_option maxHeartbeats 4000000
set_option maxRecDepth 10000
set_option linter.unusedVariables false
set_option linter.unusedSimpArgs false
set_option linter.unusedSectionVars false
namespace Go.Proofs.YtngdgnolkilheaaGreatDoor
open Go Go.Ex Go.RowKit Go.Proofs.Tryz
def srtB:List (List UInt8)→Bool
  | a::b::l=>!(Op.bytesLess b a) && (!(decide (b=a)) && srtB (b::l))
  | _=>true
theorem jK:∀ (l:List (List UInt8)),srtB l=true→sR l
  | [],_=>fun i h=>by simp at h
  | [_],_=>fun i h=>by simp at h
  | a::b::l,h=>fun i hi=>by
    rw [srtB] at h
    simp only [Bool.and_eq_true,Bool.not_eq_true',decide_eq_false_iff_not] at h
    cases i with
    | zero=>exact ⟨h.1,h.2.1⟩
    | succ i =>
      have:=jK (b::l) h.2.2 i (by simpa using hi)
      simpa using this
structure Oq where
  vers:List Int
  runs:Int
  claims:Int
  up:Bool
deriving DecidableEq
structure Cg where
  progs:List By
  nodes:List Oq
  edges:List (Int×Int)
  routes:List (List Int)
deriving DecidableEq
def tM:By:=⟨[],[]⟩
def eK (e:Int×Int):Value:=K2 e.1 e.2
theorem Ii.edge {P:Program} {t e:TypeId} (ht:P.underlying t=some (.array 2 e)) (hS:∀ w,(sizeOf e).run P w=.ok 1 w) (hA:∀ w,(isAgg e).run P w=.ok false w) (he:P.underlying e=some (.int .i64)):Ii P t eK:=by
  refine Ii.asked ht ?_ ?_ ?_ ?_
  · rintro ⟨a,b⟩ ⟨c,d⟩ h
    simp only [eK] at h
    obtain ⟨rfl,rfl⟩:=lF.1 h
    rfl
  · rintro em ⟨a,b⟩ w
    exact Qk em 9998 ht hS hA he _ _
  · rintro ⟨a,b⟩ ⟨c,d⟩;rfl
  · rintro ⟨a,b⟩ ⟨c,d⟩ w
    show (Op.equalIn (9998+2) t _ _).run P w=_
    simp only [eK,K2]
    rw [Ty 9998 ht hS hA he]
    congr 1
    rw [Bool.eq_iff_iff];simp only [Bool.and_eq_true,decide_eq_true_eq,Prod.mk.injEq]
def pM (G:Ghost) (cs:List Value) (p:By):Prop:=∃ vs vb,cs=[vs,vb]∧(eX G vs p.stmts∧cD vs p.stmts)∧(LN G vb p.blocks∧cD vb p.blocks)
def mQ (G:Ghost) (cs:List Value) (x:Oq):Prop:=∃ v,cs=[v,Vi x.runs,Vi x.claims,.bool x.up]∧Bt G v x.vers
def EdR (_:Ghost) (cs:List Value) (e:Int×Int):Prop:=cs=[Vi e.1,Vi e.2]
def RtR (G:Ghost) (cs:List Value) (r:List Int):Prop:=∃ v,cs=[v]∧Bt G v r
def sT (G:Ghost) (v:Value) (l:List By):Prop:=Be 2 pM G v l
def yF (G:Ghost) (v:Value) (l:List Oq):Prop:=Be 4 mQ G v l
def kT (G:Ghost) (v:Value) (l:List (Int×Int)):Prop:=Be 2 EdR G v l
def Rts (G:Ghost) (v:Value) (l:List (List Int)):Prop:=Be 1 RtR G v l
theorem pM.mono {G G':Ghost} (h:G.le G') {cs:List Value} {p:By} (hp:pM G cs p):pM G' cs p:=by
  obtain ⟨vs,vb,e,⟨h1,k1⟩,⟨h2,k2⟩⟩:=hp
  exact ⟨vs,vb,e,⟨h1.mono h,k1⟩,⟨h2.mono h,k2⟩⟩
theorem mQ.mono {G G':Ghost} (h:G.le G') {cs:List Value} {x:Oq} (hp:mQ G cs x):mQ G' cs x:=by
  obtain ⟨v,e,h1⟩:=hp
  exact ⟨v,e,h1.mono h⟩
theorem RtR.mono {G G':Ghost} (h:G.le G') {cs:List Value} {r:List Int} (hp:RtR G cs r):RtR G' cs r:=by
  obtain ⟨v,e,h1⟩:=hp
  exact ⟨v,e,h1.mono h⟩
theorem EdR.mono {G G':Ghost} (_:G.le G') {cs:List Value} {e:Int×Int} (hp:EdR G cs e):EdR G' cs e:=hp
theorem sT.mono {G G':Ghost} (h:G.le G') {v:Value} {l:List By} (hl:sT G v l):sT G' v l:=Be.mono (fun _ _ hp=>hp.mono h) h hl
theorem yF.mono {G G':Ghost} (h:G.le G') {v:Value} {l:List Oq} (hl:yF G v l):yF G' v l:=Be.mono (fun _ _ hp=>hp.mono h) h hl
theorem kT.mono {G G':Ghost} (h:G.le G') {v:Value} {l:List (Int×Int)} (hl:kT G v l):kT G' v l:=Be.mono (R:=EdR) (G:=G) (G':=G') (fun _ _ hp=>hp) h hl
theorem Rts.mono {G G':Ghost} (h:G.le G') {v:Value} {l:List (List Int)} (hl:Rts G v l):Rts G' v l:=Be.mono (fun _ _ hp=>hp.mono h) h hl
structure Ho (G:Ghost) (Ap An Ae Ar:Option Addr) (cp cn ce cr:Nat) (f:Cg):Prop where
  p:sT G (.slice Ap f.progs.length cp) f.progs
  n:yF G (.slice An f.nodes.length cn) f.nodes
  e:kT G (.slice Ae f.edges.length ce) f.edges
  r:Rts G (.slice Ar f.routes.length cr) f.routes
theorem Ho.mono {G G':Ghost} (h:G.le G') {Ap An Ae Ar:Option Addr} {cp cn ce cr:Nat} {f:Cg} (hf:Ho G Ap An Ae Ar cp cn ce cr f):Ho G' Ap An Ae Ar cp cn ce cr f :=
  ⟨hf.p.mono h,hf.n.mono h,hf.e.mono h,hf.r.mono h⟩
def fC (Ap An Ae Ar:Option Addr) (cp cn ce cr:Nat) (f:Cg):List Value:=[.slice Ap f.progs.length cp,.slice An f.nodes.length cn,.slice Ae f.edges.length ce,.slice Ar f.routes.length cr]
def mR (G:Ghost) (v:Value) (f:Cg):Prop:=∃ Ap An Ae Ar cp cn ce cr,v=.agg (fC Ap An Ae Ar cp cn ce cr f).toArray∧Ho G Ap An Ae Ar cp cn ce cr f
theorem mR.mono {G G':Ghost} (h:G.le G') {v:Value} {f:Cg} (hf:mR G v f):mR G' v f:=by
  obtain ⟨Ap,An,Ae,Ar,cp,cn,ce,cr,e,hf⟩:=hf
  exact ⟨Ap,An,Ae,Ar,cp,cn,ce,cr,e,hf.mono h⟩
theorem mR.of {G:Ghost} {vp vn ve vr:Value} {f:Cg} (h1:sT G vp f.progs) (h2:yF G vn f.nodes) (h3:kT G ve f.edges) (h4:Rts G vr f.routes):mR G (.agg #[vp,vn,ve,vr]) f:=by
  obtain ⟨Ap,cp,rfl⟩:=Be.slice h1
  obtain ⟨An,cn,rfl⟩:=Be.slice h2
  obtain ⟨Ae,ce,rfl⟩:=Be.slice h3
  obtain ⟨Ar,cr,rfl⟩:=Be.slice h4
  exact ⟨Ap,An,Ae,Ar,cp,cn,ce,cr,rfl,h1,h2,h3,h4⟩
structure sU (f:Cg):Prop where
  n:f.nodes.length≤1000
  e:f.edges.length≤1000
  v:∀ x∈f.nodes,x.vers.length≤1000
  r:∀ x∈f.routes,x.length≤1000
def Re (x n:Int):Bool:=decide (0≤x∧x<n)
def sV (x n:Int):Bool:=!(Re x n)
theorem outB_T {x n:Int} (h:sV x n=true):Re x n=false:=by simpa [sV] using h
theorem outB_F {x n:Int} (h:sV x n=false):Re x n=true:=by simpa [sV] using h
def Vh (l:List Int) (n:Int):Bool:=!(l.all fun v=>Re v n)
def okP (p:By):Bool:=dR p && ((match Lh p 8 0 with | some z=>decide (z≤262144) | none=>false) && ((Mr p 8 0 (⟨true,Ik [0] []⟩,none)).isSome && (decide ((Oo p.stmts).length≤12) && srtB (Oo p.stmts))))
def OkP (p:By):Prop:=okP p=true∨p=tM
def pN (p:By):Int:=if p=tM then 1 else 0
def Km (np:Int) (x:Oq):Bool:=decide (1≤x.vers.length∧x.vers.length≤8) && (x.vers.all (fun v=>Re v np) && (Re x.runs x.vers.length && Re x.claims x.vers.length))
def Hp (n:Int):List (Int×Int)→List (Int×Int)→Bool
  | _,[]=>true
  | seen,e::l=>!(decide (e∈seen)) && (Re e.1 n && (Re e.2 n && (!(decide (e.1=e.2)) && Hp n (seen++[e]) l)))
def Gm (n:Int) (l:List (Int×Int)):Bool:=Hp n [] l
def Sy (edges:List (Int×Int)) (o:Option Int) (x:Int):Bool:=match o with | none=>true | some y=>decide ((y,x)∈edges)
def Ev (edges:List (Int×Int)):List Int→List Int→Bool
  | _,[]=>true
  | pre,x::l=>!(pre.contains x) && (Sy edges pre.getLast? x && Ev edges (pre++[x]) l)
def Gh (edges:List (Int×Int)) (r:List Int):Bool:=decide (2≤r.length∧r.length≤12) && Ev edges [] r
def Dm (f:Cg):Int :=
  if 16<f.progs.length∨24<f.nodes.length∨100<f.routes.length then 2
  else if f.progs.length=0∨f.nodes.length=0 then 1
  else if f.progs.all (fun p=>decide (¬ p=tM))=false then 1
  else if f.nodes.all (Km f.progs.length)=false then 1
  else if Gm f.nodes.length f.edges=false then 1
  else if f.routes.all (Gh f.edges)=false then 300 else 0
theorem yG {G:Ghost} {cs:List Value} {p:By} (hp:pM G cs p) (hk:OkP p) (hT:Tab G):Ai prog 86 [.agg cs.toArray] G [] fun r _ H'=>H'=[]∧∃ a b c,r=.tuple #[.agg #[a,b,c],Vi (pN p)]∧([a,b,c].all fun x=>x.oneCell')=true:=by
  rcases hk with hk | rfl
  · obtain ⟨vs,vb,rfl,⟨h1,_⟩,⟨h2,_⟩⟩:=hp
    unfold okP at hk
    simp only [Bool.and_eq_true] at hk
    obtain ⟨hg,hz,hw,hn,hs⟩:=hk
    split at hz
    · rename_i z hb
      obtain ⟨R,hR⟩:=Option.isSome_iff_exists.1 hw
      have hne:pN p=0:=if_neg fun h=>by
        have:=(Pj hg).2.2.1
        rw [h] at this;simp [tM] at this
      rw [hne]
      exact rchk_ok ⟨vs,vb,rfl,h1,h2⟩ hg hb (of_decide_eq_true hz) hR (of_decide_eq_true hn) (jK _ hs) hT
    · cases hz
  · obtain ⟨vs,vb,rfl,⟨_,h1⟩,⟨_,h2⟩⟩:=hp
    obtain rfl:=h1 rfl
    obtain rfl:=h2 rfl
    exact yE
theorem Iv {x n:Int}:Re x n=true↔0≤x∧x<n:=decide_eq_true_iff
theorem keyE:Ii prog 70 eK:=Ii.edge underlying70 sizeOf3 isAgg3 underlying3
theorem edges_T {n:Int} {l:List (Int×Int)} {k:Nat} (h:k<l.length) (h1:¬ Db l[k] (l.take k)<(l.take k).length) (h2:Re l[k].1 n=true) (h3:Re l[k].2 n=true) (h4:¬ l[k].1=l[k].2) :
    Hp n (l.take k) (l.drop k)=Hp n (l.take (k+1)) (l.drop (k+1))∧(l.take (k+1)).Nodup=(l.take k++[l[k]]).Nodup:=by
  have hm:¬ l[k]∈l.take k:=fun h=>h1 (Ga.2 h)
  have he:l.take (k+1)=l.take k++[l[k]]:=by rw [List.take_add_one,List.getElem?_eq_getElem h];rfl
  constructor
  · rw [List.drop_eq_getElem_cons h,Hp,he];simp [hm,h2,h3,h4]
  · rw [he]
theorem Wm {n:Int} {l:List (Int×Int)} {k:Nat} (h:k<l.length) (h1:Db l[k] (l.take k)<(l.take k).length∨Re l[k].1 n=false∨Re l[k].2 n=false∨l[k].1=l[k].2):Hp n (l.take k) (l.drop k)=false:=by
  rw [List.drop_eq_getElem_cons h,Hp]
  rcases h1 with h1 | h1 | h1 | h1
  · have:=Ga.1 h1
    simp [this]
  · simp [h1]
  · simp [h1]
  · simp [h1]
theorem mS {α:Type} {l:List α} {k:Nat} (h:k<l.length) (hn:(l.take k).Nodup) (hm:¬ l[k]∈l.take k):(l.take (k+1)).Nodup:=by
  have he:l.take (k+1)=l.take k++[l[k]]:=by rw [List.take_add_one,List.getElem?_eq_getElem h];rfl
  rw [he,List.nodup_append]
  exact ⟨hn,by simp,fun a ha b hb e=>hm (by rw [List.mem_singleton.1 hb] at e;rw [← e];exact ha)⟩
theorem aQ {G:Ghost} {x n:Int} :
  Ai prog 89 [Vi x,Vi n] G [] fun r _ H'=>H'=[]∧r=.bool (Re x n):=by
 refine Ai.of_T [(0,_),(1,_)] func89 rfl ntmps89 sM rfl fun w0 hs =>Wt 7 [0] hs rfl<|Zy hs (Yc rfl (fun h6=>?_) fun h6=>?_)
 ·
  refine Wp 3 [] hs rfl<|Zg hs rfl (Yc rfl (fun h10=>?_) fun h10=>?_)
  ·
   refine Wp 3 [0] hs rfl<|Ah<|Zz results89 rfl ?_
   exact ⟨_,[],hs.done,rfl,congrArg Value.bool (by unfold Re;rw [eq_comm];exact decide_eq_true oM)⟩
  refine Wp 3 [0] hs rfl<|Ah<|Zz results89 rfl ?_
  exact ⟨_,[],hs.done,rfl,congrArg Value.bool (by unfold Re;rw [eq_comm];exact decide_eq_false oM)⟩
 refine Wp 7 [0] hs rfl<|Ah<|Zz results89 rfl ?_
 exact ⟨_,[],hs.done,rfl,congrArg Value.bool (by unfold Re;rw [eq_comm];exact decide_eq_false oM)⟩
theorem yH {G:Ghost} {b1:Nat} {x:Int} {Ap An Ae Ar:Option Addr} {cp cn ce cr:Nat} {f:Cg} (hQ1:Bs G b1 [.slice Ap f.progs.length cp,.slice An f.nodes.length cn,.slice Ae f.edges.length ce,.slice Ar f.routes.length cr]) :
  Ai prog 88 [Vi x,Vp b1] G [] fun r _ H'=>H'=[]∧r=.bool (sV x f.progs.length):=by
 refine Ai.of_T [(0,_),(1,_)] func88 rfl ntmps88 sM rfl fun w0 hs=>?_
 have hQ10:=hQ1
 refine Wt 8 [0,0] hs rfl<|Zy hs (Yg rfl (hQ1 0 _ rfl)<|Wp 1 [] hs rfl<|O_s (Sc (aQ) hs rfl fun v1 G' H' _ hR hG8 hs=>?_))
 obtain ⟨rfl,rfl⟩:=hR
 replace hs:=hs.n rfl
 refine Wp 3 [0] hs rfl<|Ah<|Zz results88 rfl ?_
 exact ⟨_,[],hs.done,rfl,rfl⟩
theorem idxf_ok {G:Ghost} {b1:Nat} {v:Value} {l:List Int} {Ap An Ae Ar:Option Addr} {cp cn ce cr:Nat} {f:Cg} (hQ1:Bs G b1 [.slice Ap f.progs.length cp,.slice An f.nodes.length cn,.slice Ae f.edges.length ce,.slice Ar f.routes.length cr]) (hl:Bt G v l) (hn:l.length≤1000) :
  Ai prog 115 [v,.func (.func 88) #[] #[Vp b1]] G [] fun r _ H'=>H'=[]∧∃ z,r=Vi z∧(0≤z↔l.all (fun v=>Re v f.progs.length)=false):=by
 obtain ⟨Al,cl,rfl,_⟩:=id hl
 refine Ai.of_T [(0,_),(1,_)] func115 rfl ntmps115 sM rfl fun w0 hs=>?_
 have hQ10:=hQ1
 have hl0:=hl
 refine Wt 11 [0,0] hs rfl<|Zl [0,1,7,8] (fun m E w=>∃ (k:Nat) (G2:Ghost),k≤l.length∧(l.take k).all (fun v=>Re v f.progs.length)=true∧m=l.length-k∧E=⟨[],[(0,(.slice Al l.length cl)),(1,.func (.func 88) #[] #[Vp b1]),(7,Vi ((l.length:Nat):Int)),(8,Vi (k:Int))]⟩∧St ⟨w0,G,Bl []⟩ G2 [] w) rfl (⟨0,_,by omega,by rw [List.take_zero];rfl,rfl,rfl,hs⟩) fun m E w hI=>?_
 obtain ⟨k,G2,hk,ha,rfl,rfl,hs⟩:=hI
 have hQ1:=hQ10.mono hs.le
 have hl:=hl0.mono hs.le
 refine Wt 2 [] hs rfl<|Zy hs (Yc rfl (fun h9=>?_) fun h9=>?_)
 ·
  refine Wp 16 [0,0] hs rfl<|Zy hs (Dd hl k underlying33 sizeOf3 rfl rfl rfl oM fun p14 hp14=>?_)
  obtain ⟨x,hxe⟩:∃ x,x=l[k]'oM:=⟨_,rfl⟩
  rw [← hxe] at hp14
  refine Zy hs (Yg rfl (hp14)<|O_s (Ca (args:=[_]) (lb:=[_]) (H1:=[]) hs rfl rfl func88 rfl kR (yH hQ1 (f:=f) (x:=x)) fun v1 G' H' _ hR hG16 hs=>?_))
  obtain ⟨rfl,rfl⟩:=hR
  replace hs:=hs.n rfl
  cases h16:sV x (f.progs.length:Int)
  ·
   refine Wp 4 [0] hs rfl<|Zy hs (Ya (s:=((k+1:Nat):Int)) rfl<|Wp 1 [] hs rfl<|Zx [0,1,7,8] rfl ⟨k+1,_,by omega,by rw [List.take_add_one,List.getElem?_eq_getElem oM,← hxe,List.all_append,ha];simp [outB_F h16],rfl,rfl,hs⟩)
  refine Wp 7 [0,0] hs rfl<|Ah<|Zz results115 rfl ?_
  exact ⟨_,[],hs.done,rfl,_,rfl,fun _=>by rw [List.all_eq_false];exact ⟨x,by rw [hxe];exact List.getElem_mem _,by simp [outB_T h16]⟩,fun _=>by omega⟩
 refine Wp 4 [0] hs rfl<|Wu 4 [0] hs rfl<|Ah<|Zz results115 rfl ?_
 obtain rfl:k=l.length:=by omega
 rw [List.take_length] at ha
 exact ⟨_,[],hs.done,rfl,_,rfl,fun h=>by omega,fun h=>by rw [ha] at h;cases h⟩
theorem conf_ok {G:Ghost} {b1:Nat} {v:Value} {l:List Int} {Ap An Ae Ar:Option Addr} {cp cn ce cr:Nat} {f:Cg} (hQ1:Bs G b1 [.slice Ap f.progs.length cp,.slice An f.nodes.length cn,.slice Ae f.edges.length ce,.slice Ar f.routes.length cr]) (hl:Bt G v l) (hn:l.length≤1000) :
  Ai prog 87 [v,.func (.func 88) #[] #[Vp b1]] G [] fun r _ H'=>H'=[]∧r=.bool (Vh l f.progs.length):=by
 refine Ai.of_T [(0,_),(1,_)] func87 rfl ntmps87 sM rfl fun w0 hs=>?_
 have hQ10:=hQ1
 have hl0:=hl
 refine Wt 8 [0] hs rfl<|O_s (Sc (idxf_ok hQ1 hl hn (f:=f)) hs rfl fun v1 G' H' _ hR hG7 hs=>?_)
 obtain ⟨rfl,z,rfl,hz⟩:=hR
 replace hs:=hs.n rfl
 refine Zy hs (Yc rfl (fun h8=>?_) fun h8=>?_)
 ·
  refine Wp 2 [0] hs rfl<|Ah<|Zz results87 rfl ?_
  exact ⟨_,[],hs.done,rfl,congrArg Value.bool (by unfold Vh;rw [hz.1 oM];rfl)⟩
 refine Wp 2 [0] hs rfl<|Ah<|Zz results87 rfl ?_
 exact ⟨_,[],hs.done,rfl,congrArg Value.bool (by unfold Vh;rw [eq_comm,Bool.not_eq_false'];exact eq_true_of_ne_false fun h=>absurd (hz.2 h) oM)⟩
theorem pO {G:Ghost} {Ap An Ae Ar:Option Addr} {cp cn ce cr:Nat} {f:Cg} (hf:Ho G Ap An Ae Ar cp cn ce cr f) (hz:sU f) :
  Ai prog 90 [(.agg (fC Ap An Ae Ar cp cn ce cr f).toArray)] G [] fun r _ H'=>(Gm f.nodes.length f.edges=true∧∃ b,r=.tuple #[.map (some b),Vt]∧H'=[.obj b (.map (Fi eK f.edges).toArray f.edges.length)])∨(Gm f.nodes.length f.edges=false∧r=.tuple #[.map none,Vf]∧H'=[]):=by
 have hE:=hf.e
 have hez:=hz.e
 show Ai _ _ [.agg #[.slice Ap f.progs.length cp,.slice An f.nodes.length cn,.slice Ae f.edges.length ce,.slice Ar f.routes.length cr]] _ _ _
 refine Ai.of_T [(0,_)] func90 rfl ntmps90 sM rfl fun w0 hs=>?_
 have hE0:=hE
 refine Wt 2 [] hs rfl<|O_s (Sb hs rfl fun b1 _ hs=>Wp 5 [0] hs rfl<|O_s (Jy hs fun b9 _ hs =>Wp 10 [0,2,1,0] hs rfl ?_))
 have hs:=hs.f1.f1
 refine Zl [1,4,11,12,13] (fun m E w=>∃ (k:Nat) (G2:Ghost),k≤f.edges.length∧Hp f.nodes.length [] f.edges=Hp f.nodes.length (f.edges.take k) (f.edges.drop k)∧(f.edges.take k).Nodup∧m=f.edges.length-k∧E=⟨[],[(1,Vp b1),(4,.map (some b9)),(11,.slice Ae f.edges.length ce),(12,Vi ((f.edges.length:Nat):Int)),(13,Vi (k:Int))]⟩∧St ⟨w0,G,Bl []⟩ G2 [.obj b9 (.map (Fi eK (f.edges.take k)).toArray (f.edges.take k).length),.blk b1 43 [.slice Ap f.progs.length cp,.slice An f.nodes.length cn,.slice Ae f.edges.length ce,.slice Ar f.routes.length cr]] w) rfl (⟨0,_,by omega,rfl,by simp,rfl,rfl,hs⟩) fun m E w hI=>?_
 obtain ⟨k,G2,hk,hfo,hnd,rfl,rfl,hs⟩:=hI
 have hE:=hE0.mono hs.le
 refine Wt 2 [] hs rfl<|Zy hs (Yc rfl (fun h14=>?_) fun h14=>?_)
 ·
  refine Wp 9 [0] hs rfl<|Zy hs (Bp hE k underlying40 sizeOf70 rfl rfl rfl oM fun p16 c16 hp16 hc16 hR16 =>Zy hs (Cy (vs:=[Vi f.edges[k].1,Vi f.edges[k].2]) isAgg70 sizeOf70 rfl (hR16▸hp16) rfl<|O_s (Sa hs zeroValue70 rfl fun b6 _ hs=>Wp 1 [] hs rfl<|O_n (Sg hs rfl (rfl) fun _ hs=>Wp 6 [0,0] hs rfl<|Zy hs (Jz (a:=f.edges[k]) 1 rfl underlying113 keyE zeroValue3 hnd rfl rfl (fun hno=>?_) (fun hyes=>?_))))))
  ·
   refine Wp 10 [0] hs rfl<|Zg hs rfl (Dq 0 underlying70 sizeOf3 rfl rfl rfl dC (m:=0) rfl<|Wp 4 [0,1,2] hs rfl<|Cl 25 rfl rfl (Sc (aQ) hs rfl fun v1 G' H' _ hR hG31 hs=>?_))
   obtain ⟨rfl,rfl⟩:=hR
   replace hs:=hs.n rfl
   cases h31:Re f.edges[k].1 (f.nodes.length:Int)
   ·
    refine Wp 25 [8,1,4,5,6,11,12,13,49,0] hs rfl<|Ah ?_
    refine Bi (vs:=[_,_]) results90 rfl ⟨rfl,rfl,trivial⟩ ?_
    try dsimp only [tup]
    exact ⟨_,[],hs.done,.inr ⟨by unfold Gm;rw [hfo];exact Wm oM (.inr (.inl h31)),rfl,rfl⟩⟩
   refine Wp 3 [] hs rfl<|Zg hs rfl (Dq 1 underlying70 sizeOf3 rfl rfl rfl dC (m:=1) rfl<|Wp 4 [0,1,2] hs rfl<|Cl 34 rfl rfl (Sc (aQ) hs rfl fun v2 G' H' _ hR hG40 hs=>?_))
   obtain ⟨rfl,rfl⟩:=hR
   replace hs:=hs.n rfl
   cases h40:Re f.edges[k].2 (f.nodes.length:Int)
   ·
    refine Wp 16 [8,1,4,5,6,11,12,13,49,0] hs rfl<|Ah ?_
    refine Bi (vs:=[_,_]) results90 rfl ⟨rfl,rfl,trivial⟩ ?_
    try dsimp only [tup]
    exact ⟨_,[],hs.done,.inr ⟨by unfold Gm;rw [hfo];exact Wm oM (.inr (.inr (.inl h40))),rfl,rfl⟩⟩
   refine Wp 3 [] hs rfl<|Zg hs rfl (Dq 0 underlying70 sizeOf3 rfl rfl rfl dC (m:=0) rfl<|Wp 1 [0] hs rfl<|Zg hs rfl (Dq 1 underlying70 sizeOf3 rfl rfl rfl dC (m:=1) rfl<|Wp 1 [0] hs rfl<|Zg hs rfl (Yc rfl (fun h48=>?_) fun h48=>?_)))
   ·
    refine Wp 8 [8,1,4,5,6,11,12,13,49,0] hs rfl<|Ah ?_
    refine Bi (vs:=[_,_]) results90 rfl ⟨rfl,rfl,trivial⟩ ?_
    try dsimp only [tup]
    exact ⟨_,[],hs.done,.inr ⟨by unfold Gm;rw [hfo];exact Wm oM (.inr (.inr (.inr h48))),rfl,rfl⟩⟩
   refine Wp 8 [8,1,4,5,6,11,12,13,49,0] hs rfl<|O_n (Xy (a:=f.edges[k]) hs.f1 underlying113 keyE hnd hno rfl rfl (by rw [List.length_take,Nat.min_eq_left oM];rfl) fun _ hs =>Wp 2 [0] hs rfl<|Zy hs (Ya (s:=((k+1:Nat):Int)) rfl<|Wp 1 [] hs rfl ?_))
   have hs:=hs.f2.f1
   have hst:=edges_T oM hno h31 h40 h48
   refine Zx [1,4,11,12,13] rfl ⟨k+1,_,by omega,by rw [hfo,hst.1],mS oM hnd (fun h=>hno (Ga.2 h)),rfl,rfl,Bz (hs.weak hs.le (Cj _) (Ea [_,_] _)) (by rw [List.take_add_one,List.getElem?_eq_getElem oM];rfl)⟩
  refine Wp 41 [0,8,1,4,5,6,11,12,13,49,0] hs rfl<|Ah ?_
  refine Bi (vs:=[_,_]) results90 rfl ⟨rfl,rfl,trivial⟩ ?_
  try dsimp only [tup]
  exact ⟨_,[],hs.done,.inr ⟨by unfold Gm;rw [hfo];exact Wm oM (.inl hyes),rfl,rfl⟩⟩
 refine Wp 4 [0] hs rfl<|Wu 6 [0] hs rfl<|Ah ?_
 refine Bi (vs:=[_,_]) results90 rfl ⟨rfl,rfl,trivial⟩ ?_
 try dsimp only [tup]
 obtain rfl:k=f.edges.length:=by omega
 rw [List.take_length] at hs
 exact ⟨_,_,hs.weak hs.le (Cj _) (Ea [_] _),.inl ⟨by unfold Gm;rw [hfo,List.drop_length];rfl,b9,rfl,rfl⟩⟩
theorem dT {l:List Int} {k:Nat} (h:k<l.length) (h0:¬ k=0):(l.take k).getLast?=some (l[k-1]'oM):=by
  rw [List.getLast?_eq_getElem?,List.length_take,Nat.min_eq_left oM,List.getElem?_take_of_lt oM,List.getElem?_eq_getElem oM]
theorem Ed {α:Type} {l:List α} {k:Nat} (h:k<l.length):l.take (k+1)=l.take k++[l[k]]:=by rw [List.take_add_one,List.getElem?_eq_getElem h];rfl
theorem jL {es:List (Int×Int)} {l:List Int} {k:Nat} (h:k<l.length) (h1:(l.take k).contains l[k]=false) (h2:k=0∨Sy es (l.take k).getLast? l[k]=true):Ev es (l.take k) (l.drop k)=Ev es (l.take (k+1)) (l.drop (k+1)):=by
  rw [List.drop_eq_getElem_cons h,Ev,Ed h,h1]
  rcases h2 with rfl | h2
  · simp [Sy]
  · simp [h2]
theorem jM {es:List (Int×Int)} {l:List Int} {k:Nat} (h:k<l.length) (h1:(l.take k).contains l[k]=true∨Sy es (l.take k).getLast? l[k]=false):Ev es (l.take k) (l.drop k)=false:=by
  rw [List.drop_eq_getElem_cons h,Ev]
  rcases h1 with h1 | h1
  · rw [h1];rfl
  · rw [h1];simp
theorem link_T {es:List (Int×Int)} {l:List Int} {k:Nat} (h:k<l.length) (h0:¬ k=0) (hp:Db ((l[k-1]'oM),l[k]) es<es.length):Sy es (l.take k).getLast? l[k]=true:=by
  rw [dT h h0];exact decide_eq_true (Ga.1 hp)
theorem link_F {es:List (Int×Int)} {l:List Int} {k:Nat} (h:k<l.length) (h0:¬ k=0) (hp:¬ Db ((l[k-1]'oM),l[k]) es<es.length):Sy es (l.take k).getLast? l[k]=false:=by
  rw [dT h h0];exact decide_eq_false fun hm=>hp (Ga.2 hm)
theorem frte_ok {G:Ghost} {b:Nat} {v:Value} {es:List (Int×Int)} {l:List Int} (hnd:es.Nodup) (hl:Bt G v l) (hn:l.length≤1000) :
  Ai prog 91 [.map (some b),v] G [.obj b (.map (Fi eK es).toArray es.length)] fun r _ H'=>r=.bool (Gh es l)∧H'=[.obj b (.map (Fi eK es).toArray es.length)]:=by
 obtain ⟨Al,cl,rfl,_⟩:=id hl
 refine Ai.of_T [(0,_),(1,_)] func91 rfl ntmps91 sM rfl fun w0 hs=>?_
 have hl0:=hl
 refine Wt 9 [0] hs rfl<|Zy hs (Yc rfl (fun h11=>?_) fun h11=>?_)
 ·
  refine Wp 11 [0,0] hs rfl<|Ah<|Zz results91 rfl ?_
  exact ⟨_,_,hs,congrArg Value.bool (by rw [eq_comm];unfold Gh;rw [decide_eq_false oM];rfl),rfl⟩
 refine Wp 3 [] hs rfl<|Zg hs rfl (Yc rfl (fun h15=>?_) fun h15=>?_)
 ·
  refine Wp 7 [0,0] hs rfl<|Ah<|Zz results91 rfl ?_
  exact ⟨_,_,hs,congrArg Value.bool (by rw [eq_comm];unfold Gh;rw [decide_eq_false oM];rfl),rfl⟩
 refine Wp 11 [0,0] hs rfl<|Zl [0,1,17,18,19] (fun m E w=>∃ (k:Nat) (G2:Ghost),k≤l.length∧Ev es [] l=Ev es (l.take k) (l.drop k)∧m=l.length-k∧E=⟨[],[(0,.map (some b)),(1,(.slice Al l.length cl)),(17,(.slice Al l.length cl)),(18,Vi ((l.length:Nat):Int)),(19,Vi (k:Int))]⟩∧St ⟨w0,G,Bl [.obj b (.map (Fi eK es).toArray es.length)]⟩ G2 [.obj b (.map (Fi eK es).toArray es.length)] w) rfl (⟨0,_,by omega,by simp,rfl,rfl,hs⟩) fun m E w hI=>?_
 obtain ⟨k,G2,hk,hfo,rfl,rfl,hs⟩:=hI
 have hl:=hl0.mono hs.le
 refine Wt 2 [] hs rfl<|Zy hs (Yc rfl (fun h20=>?_) fun h20=>?_)
 ·
  refine Wp 9 [0] hs rfl<|Zy hs (Dd hl k underlying33 sizeOf3 rfl rfl rfl oM fun p22 hp22 =>Zy hs (Yg rfl (hp22)<|Wp 8 [0] hs rfl<|Zy hs (Kd hl 0 k underlying33 sizeOf3 rfl rfl ⟨_,_,rfl,rfl⟩ oM oM fun s26 hs26=>?_)))
  obtain ⟨A26,c26,rfl,_⟩:=id hs26
  refine Wp 1 [] hs rfl<|O_s (Sc (Sp hs26 Lk) hs rfl fun v1 G' H' _ hR hG28 hs=>?_)
  obtain ⟨rfl,rfl⟩:=hR
  replace hs:=hs.n rfl
  replace hl:=hl.mono hG28
  cases h28:((l.drop 0).take (k-0)).contains (l[k]'oM)
  ·
   refine Wp 7 [0] hs rfl<|Zy hs (Yc rfl (fun h30=>?_) fun h30=>?_)
   ·
    refine Wp 4 [0] hs rfl<|Zy hs (Ya (s:=((k+1:Nat):Int)) rfl<|Wp 1 [] hs rfl ?_)
    have hst:=jL (es:=es) (l:=l) (k:=k) oM (by simpa using h28) (.inl oM)
    refine Zx [0,1,17,18,19] rfl ⟨k+1,_,by omega,by rw [hfo,hst],rfl,rfl,hs⟩
   refine Wp 8 [0] hs rfl<|Zy hs (Fp (c:=((k-1:Nat):Int)) rfl rfl oM oM<|Zy hs (Dd hl (k-1) underlying33 sizeOf3 rfl rfl rfl oM fun p36 hp36 =>Zy hs (Yg rfl (hp36)<|Wp 1 [] hs rfl<|Zy hs (Ct underlying70 sizeOf3 zeroValue70 rfl rfl (cs:=[_,_]) rfl<|Zy hs (Jz (a:=((l[k-1]'oM),(l[k]'oM))) 0 rfl underlying113 keyE zeroValue3 hnd rfl rfl (fun hno=>?_) (fun hyes=>?_))))))
   ·
    refine Wp 16 [6,0,1,8,17,18,19,0,0] hs rfl<|Ah<|Zz results91 rfl ?_
    exact ⟨_,_,hs,congrArg Value.bool (by rw [eq_comm];unfold Gh;rw [decide_eq_true oM,Bool.true_and,hfo];exact jM oM (.inr (link_F oM oM hno))),rfl⟩
   refine Wp 14 [6,0,1,8,17,18,19,0] hs rfl<|Zy hs (Ya (s:=((k+1:Nat):Int)) rfl<|Wp 1 [] hs rfl ?_)
   have hst:=jL (es:=es) (l:=l) (k:=k) oM (by simpa using h28) (.inr (link_T oM oM hyes))
   refine Zx [0,1,17,18,19] rfl ⟨k+1,_,by omega,by rw [hfo,hst],rfl,rfl,hs⟩
  refine Wp 6 [0,0] hs rfl<|Ah<|Zz results91 rfl ?_
  exact ⟨_,_,hs,congrArg Value.bool (by rw [eq_comm];unfold Gh;rw [decide_eq_true oM,Bool.true_and,hfo];exact jM oM (.inl (by simpa using h28))),rfl⟩
 refine Wp 4 [0] hs rfl<|Wu 4 [0] hs rfl<|Ah<|Zz results91 rfl ?_
 obtain rfl:k=l.length:=by omega
 exact ⟨_,_,hs,congrArg Value.bool (by rw [eq_comm];unfold Gh;rw [decide_eq_true oM,Bool.true_and,hfo];rw [List.drop_length];rfl),rfl⟩
theorem fnum_T {G:Ghost} {Ap An Ae Ar:Option Addr} {cp cn ce cr:Nat} {f:Cg} (hf:Ho G Ap An Ae Ar cp cn ce cr f) (hz:sU f) (h:Gm f.nodes.length f.edges=true):Ai prog 90 [(.agg (fC Ap An Ae Ar cp cn ce cr f).toArray)] G [] fun r _ H'=>∃ b,r=.tuple #[.map (some b),Vt]∧H'=[.obj b (.map (Fi eK f.edges).toArray f.edges.length)]:=by
  refine (pO hf hz).mono fun r G' H' _ h2=>?_
  rcases h2 with ⟨_,h2⟩ | ⟨h3,_⟩
  · exact h2
  · rw [h] at h3;cases h3
theorem fnum_F {G:Ghost} {Ap An Ae Ar:Option Addr} {cp cn ce cr:Nat} {f:Cg} (hf:Ho G Ap An Ae Ar cp cn ce cr f) (hz:sU f) (h:Gm f.nodes.length f.edges=false):Ai prog 90 [(.agg (fC Ap An Ae Ar cp cn ce cr f).toArray)] G [] fun r _ H'=>H'=[]∧r=.tuple #[.map none,Vf]:=by
  refine (pO hf hz).mono fun r G' H' _ h2=>?_
  rcases h2 with ⟨h3,_⟩ | ⟨_,h4,h5⟩
  · rw [h] at h3;cases h3
  · exact ⟨h5,h4⟩
theorem Ta {n:Int}:∀ (l s:List (Int×Int)),s.Nodup→Hp n s l=true→(s++l).Nodup
  | [],s,hs,_=>by simpa using hs
  | e::l,s,hs,h=>by
    rw [Hp] at h
    simp only [Bool.and_eq_true,Bool.not_eq_true',decide_eq_false_iff_not] at h
    have:=Ta l (s++[e]) (by
      rw [List.nodup_append]
      exact ⟨hs,by simp,fun a ha b hb e'=>h.1 (by rw [List.mem_singleton.1 hb] at e';rw [← e'];exact ha)⟩) h.2.2.2.2
    simpa using this
theorem Tc {n:Int} {l:List (Int×Int)} (h:Gm n l=true):l.Nodup:=by simpa using Ta l [] List.nodup_nil h
theorem Mt {np:Int} {x:Oq} (h:x.vers.length<1∨8<x.vers.length∨Vh x.vers np=true∨Re x.runs x.vers.length=false∨Re x.claims x.vers.length=false):Km np x=false:=by
  unfold Km
  rcases h with h | h | h | h | h
  · rw [decide_eq_false oM];rfl
  · rw [decide_eq_false oM];rfl
  · unfold Vh at h
    rw [Bool.not_eq_true'] at h
    rw [h];simp
  · rw [h];simp
  · rw [h];simp
theorem yI {np:Int} {x:Oq} (h1:¬ x.vers.length<1) (h2:¬ 8<x.vers.length) (h3:Vh x.vers np=false) (h4:Re x.runs x.vers.length=true) (h5:Re x.claims x.vers.length=true):Km np x=true:=by
  unfold Km
  unfold Vh at h3
  rw [Bool.not_eq_false'] at h3
  rw [decide_eq_true oM,h3,h4,h5];rfl
theorem yJ {α:Type} {l:List α} {q:α→Bool} {k:Nat} (h:k<l.length) (h1:(l.take k).all q=true) (h2:q l[k]=true):(l.take (k+1)).all q=true:=by
  rw [Ed h,List.all_append,h1];simp [h2]
theorem Td {α:Type} {l:List α} {q:α→Bool} {k:Nat} (h:k<l.length) (h2:q l[k]=false):l.all q=false:=List.all_eq_false.2 ⟨l[k],List.getElem_mem _,by simp [h2]⟩
section
variable {f:Cg}
theorem mT (h:16<f.progs.length∨24<f.nodes.length∨100<f.routes.length):Dm f=2:=if_pos h
theorem pP (h0:¬ (16<f.progs.length∨24<f.nodes.length∨100<f.routes.length)) (h:f.progs.length=0∨f.nodes.length=0):Dm f=1:=by unfold Dm;rw [if_neg h0,if_pos h]
theorem ce_prog (h0:¬ (16<f.progs.length∨24<f.nodes.length∨100<f.routes.length)) (h1:¬ (f.progs.length=0∨f.nodes.length=0)) (h:f.progs.all (fun p=>decide (¬ p=tM))=false):Dm f=1:=by unfold Dm;rw [if_neg h0,if_neg h1,if_pos h]
theorem Mu (h0:¬ (16<f.progs.length∨24<f.nodes.length∨100<f.routes.length)) (h1:¬ (f.progs.length=0∨f.nodes.length=0)) (h2:f.progs.all (fun p=>decide (¬ p=tM))=true) (h:f.nodes.all (Km f.progs.length)=false):Dm f=1:=by
  unfold Dm;rw [if_neg h0,if_neg h1,if_neg (by rw [h2];simp),if_pos h]
theorem ce_edge (h0:¬ (16<f.progs.length∨24<f.nodes.length∨100<f.routes.length)) (h1:¬ (f.progs.length=0∨f.nodes.length=0)) (h2:f.progs.all (fun p=>decide (¬ p=tM))=true) (h3:f.nodes.all (Km f.progs.length)=true) (h:Gm f.nodes.length f.edges=false):Dm f=1:=by
  unfold Dm;rw [if_neg h0,if_neg h1,if_neg (by rw [h2];simp),if_neg (by rw [h3];simp),if_pos h]
theorem yK (h0:¬ (16<f.progs.length∨24<f.nodes.length∨100<f.routes.length)) (h1:¬ (f.progs.length=0∨f.nodes.length=0)) (h2:f.progs.all (fun p=>decide (¬ p=tM))=true) (h3:f.nodes.all (Km f.progs.length)=true) (h4:Gm f.nodes.length f.edges=true) (h:f.routes.all (Gh f.edges)=false):Dm f=300:=by
  unfold Dm;rw [if_neg h0,if_neg h1,if_neg (by rw [h2];simp),if_neg (by rw [h3];simp),if_neg (by rw [h4];simp),if_pos h]
theorem ce_ok (h0:¬ (16<f.progs.length∨24<f.nodes.length∨100<f.routes.length)) (h1:¬ (f.progs.length=0∨f.nodes.length=0)) (h2:f.progs.all (fun p=>decide (¬ p=tM))=true) (h3:f.nodes.all (Km f.progs.length)=true) (h4:Gm f.nodes.length f.edges=true) (h:f.routes.all (Gh f.edges)=true):Dm f=0:=by
  unfold Dm;rw [if_neg h0,if_neg h1,if_neg (by rw [h2];simp),if_neg (by rw [h3];simp),if_neg (by rw [h4];simp),if_neg (by rw [h];simp)]
end
theorem pQ {G:Ghost} {Ap An Ae Ar:Option Addr} {cp cn ce cr:Nat} {f:Cg} (hf:Ho G Ap An Ae Ar cp cn ce cr f) (hz:sU f) (hP:∀ p∈f.progs,OkP p) (hT:Tab G) :
  Ai prog 61 [(.agg (fC Ap An Ae Ar cp cn ce cr f).toArray)] G [] fun r _ H'=>(Dm f=0∧∃ b,r=.tuple #[.map (some b),Vi 0]∧H'=[.obj b (.map (Fi eK f.edges).toArray f.edges.length)])∨(¬ Dm f=0∧r=.tuple #[.map none,Vi (Dm f)]∧H'=[]):=by
 have hez:=hz.e
 have hnz:=hz.n
 show Ai _ _ [.agg #[.slice Ap f.progs.length cp,.slice An f.nodes.length cn,.slice Ae f.edges.length ce,.slice Ar f.routes.length cr]] _ _ _
 refine Ai.of_T [(0,_)] func61 rfl ntmps61 sM rfl fun w0 hs=>?_
 have hf0:=hf
 have hT0:=hT
 refine Wt 2 [] hs rfl<|O_s (Sb hs rfl fun b1 _ hs=>Wp 9 [0,0,0] hs rfl<|Zy hs (Yc rfl (fun h19=>?_) fun h19=>?_))
 ·
  refine Wp 19 [2,1,31,0] hs rfl<|Ah ?_
  refine Bi (vs:=[_,_]) results61 rfl ⟨rfl,rfl,trivial⟩ ?_
  try dsimp only [tup]
  have hce:=mT (f:=f) oM
  exact ⟨_,[],hs.done,.inr ⟨by omega,by rw [hce],rfl⟩⟩
 refine Wp 4 [1,0] hs rfl<|Zg hs rfl (Yc rfl (fun h24=>?_) fun h24=>?_)
 ·
  refine Wp 14 [2,1,31,0] hs rfl<|Ah ?_
  refine Bi (vs:=[_,_]) results61 rfl ⟨rfl,rfl,trivial⟩ ?_
  try dsimp only [tup]
  have hce:=mT (f:=f) oM
  exact ⟨_,[],hs.done,.inr ⟨by omega,by rw [hce],rfl⟩⟩
 refine Wp 5 [3,0] hs rfl<|Zg hs rfl (Yc rfl (fun h30=>?_) fun h30=>?_)
 ·
  refine Wp 8 [2,1,31,0] hs rfl<|Ah ?_
  refine Bi (vs:=[_,_]) results61 rfl ⟨rfl,rfl,trivial⟩ ?_
  try dsimp only [tup]
  have hce:=mT (f:=f) oM
  exact ⟨_,[],hs.done,.inr ⟨by omega,by rw [hce],rfl⟩⟩
 refine Wp 4 [2,1,31] hs rfl ?_
 have hb0:¬ (16<f.progs.length∨24<f.nodes.length∨100<f.routes.length):=by omega
 refine Wu 6 [0,0] hs rfl<|Zy hs (Yc rfl (fun h35=>?_) fun h35=>?_)
 ·
  refine Wp 13 [0,0] hs rfl<|Ah ?_
  refine Bi (vs:=[_,_]) results61 rfl ⟨rfl,rfl,trivial⟩ ?_
  try dsimp only [tup]
  have hce:=pP hb0 oM
  exact ⟨_,[],hs.done,.inr ⟨by omega,by rw [hce],rfl⟩⟩
 refine Wp 4 [1,0] hs rfl<|Zg hs rfl (Yc rfl (fun h40=>?_) fun h40=>?_)
 ·
  refine Wp 8 [0,0] hs rfl<|Ah ?_
  refine Bi (vs:=[_,_]) results61 rfl ⟨rfl,rfl,trivial⟩ ?_
  try dsimp only [tup]
  have hce:=pP hb0 oM
  exact ⟨_,[],hs.done,.inr ⟨by omega,by rw [hce],rfl⟩⟩
 refine Wp 4 [0] hs rfl ?_
 have hb1:¬ (f.progs.length=0∨f.nodes.length=0):=by omega
 refine Wu 8 [0,0,0] hs rfl<|Zl [1,43,44,45] (fun m E w=>∃ (k:Nat) (G2:Ghost),k≤f.progs.length∧(f.progs.take k).all (fun p=>decide (¬ p=tM))=true∧m=f.progs.length-k∧E=⟨[],[(1,Vp b1),(43,.slice Ap f.progs.length cp),(44,Vi ((f.progs.length:Nat):Int)),(45,Vi (k:Int))]⟩∧St ⟨w0,G,Bl []⟩ G2 [.blk b1 43 [.slice Ap f.progs.length cp,.slice An f.nodes.length cn,.slice Ae f.edges.length ce,.slice Ar f.routes.length cr]] w) rfl (⟨0,_,by omega,by simp,rfl,rfl,hs⟩) fun m E w hI=>?_
 obtain ⟨k,G2,hk,hpa,rfl,rfl,hs⟩:=hI
 have hf:=hf0.mono hs.le
 have hT:=hT0.mono hs.le
 refine Wt 2 [] hs rfl<|Zy hs (Yc rfl (fun h46=>?_) fun h46=>?_)
 ·
  refine Wp 8 [0] hs rfl<|Zy hs (Bp hf.p k underlying38 sizeOf102 rfl rfl rfl oM fun p47 c47 hp47 hc47 hR47=>?_)
  obtain ⟨u47,v47,rfl,⟨hS47,_⟩,⟨hB47,_⟩⟩:=id hR47
  obtain ⟨As,cs,rfl⟩:=Be.slice hS47
  obtain ⟨Ab,cb,rfl⟩:=Be.slice hB47
  refine Zy hs (Cy (vs:=[.slice As f.progs[k].stmts.length cs,.slice Ab f.progs[k].blocks.length cb]) isAgg102 sizeOf102 rfl hp47 rfl<|O_s (Sa hs zeroValue102 rfl fun b5 _ hs=>O_n (Sg hs rfl (rfl) fun _ hs=>Wp 4 [0,0] hs rfl<|O_s (Sc (yG hR47 (hP _ (List.getElem_mem _)) hT) hs rfl fun v1 G' H' _ hR hG51 hs=>?_))))
  obtain ⟨rfl,ua,ub,uc,rfl,hu51⟩:=hR
  replace hs:=hs.n rfl
  refine Wp 3 [] hs rfl<|O_s (Sa hs zeroValue152 rfl fun b6 _ hs=>O_n (Sg hs rfl (hu51) fun _ hs=>Wp 5 [0] hs rfl<|Zy hs (Yc rfl (fun h55=>?_) fun h55=>?_)))
  ·
   refine Wp 8 [0,0] hs rfl<|Ah ?_
   refine Bi (vs:=[_,_]) results61 rfl ⟨rfl,rfl,trivial⟩ ?_
   try dsimp only [tup]
   have hne:f.progs[k]=tM:=Classical.not_not.1 fun h=>h55 (if_neg h)
   have hce:=ce_prog hb0 hb1 (Td (k:=k) oM (by simp [hne]))
   exact ⟨_,[],hs.done,.inr ⟨by omega,by rw [hce,show pN f.progs[k]=1 from if_pos hne]<;>rfl,rfl⟩⟩
  refine Wp 4 [0] hs rfl<|Zy hs (Ya (s:=((k+1:Nat):Int)) rfl<|Wp 1 [] hs rfl ?_)
  have hs:=hs.f2
  refine Zx [1,43,44,45] rfl ⟨k+1,_,by omega,yJ oM hpa (decide_eq_true fun h=>by rw [show pN f.progs[k]=1 from if_pos h] at h55;exact h55 dC),rfl,rfl,hs.weak hs.le (Cj _) (Ea [_] _)⟩
 refine Wp 4 [0] hs rfl ?_
 obtain rfl:k=f.progs.length:=by omega
 rw [List.take_length] at hpa
 obtain ⟨_,hGbhQ1,hQ1,hs⟩:=hs.fixBlk (fun k _=>Hv k)
 replace hf:=hf.mono hGbhQ1
 replace hT:=hT.mono hGbhQ1
 replace hQ1:Bs _ b1 _:=hQ1
 refine Wu 4 [1] hs rfl<|Zy hs (Yg rfl (hQ1 1 _ rfl)<|Wp 3 [0] hs rfl<|Zl [1,59,60,61] (fun m E w=>∃ (k:Nat) (G2:Ghost),k≤f.nodes.length∧(f.nodes.take k).all (Km f.progs.length)=true∧Bs G2 b1 [.slice Ap f.progs.length cp,.slice An f.nodes.length cn,.slice Ae f.edges.length ce,.slice Ar f.routes.length cr]∧m=f.nodes.length-k∧E=⟨[],[(1,Vp b1),(59,.slice An f.nodes.length cn),(60,Vi ((f.nodes.length:Nat):Int)),(61,Vi (k:Int))]⟩∧St ⟨w0,G,Bl []⟩ G2 [] w) rfl (⟨0,_,by omega,by simp,hQ1,rfl,rfl,hs⟩) fun m E w hI=>?_)
 obtain ⟨k,G2,hk,hna,hQ1,rfl,rfl,hs⟩:=hI
 have hf:=hf0.mono hs.le
 have hT:=hT0.mono hs.le
 refine Wt 2 [] hs rfl<|Zy hs (Yc rfl (fun h62=>?_) fun h62=>?_)
 ·
  refine Wp 8 [0] hs rfl<|Zy hs (Bp hf.n k underlying39 sizeOf76 rfl rfl rfl oM fun p63 c63 hp63 hc63 hR63=>?_)
  obtain ⟨u63,rfl,hv63⟩:=hR63
  obtain ⟨Av,cv,rfl,_⟩:=id hv63
  refine Zy hs (Cy (vs:=[.slice Av f.nodes[k].vers.length cv,Vi f.nodes[k].runs,Vi f.nodes[k].claims,.bool f.nodes[k].up]) isAgg76 sizeOf76 rfl hp63 rfl<|O_s (Sa hs zeroValue76 rfl fun b9 _ hs=>O_n (Sg hs rfl (rfl) fun _ hs=>Wp 12 [0,0,0,0,0,0] hs rfl<|Zy hs (Dr (vs:=[_]) rfl<|O_s (Sc (conf_ok hQ1 hv63 (hz.v _ (List.getElem_mem _)) (f:=f)) hs rfl fun v2 G' H' _ hR hG71 hs=>?_)))))
  obtain ⟨rfl,rfl⟩:=hR
  replace hs:=hs.n rfl
  replace hQ1:=hQ1.mono hG71
  cases h71:Vh f.nodes[k].vers (f.progs.length:Int)
  ·
   refine Wp 5 [0] hs rfl<|Zy hs (Yc rfl (fun h73=>?_) fun h73=>?_)
   ·
    refine Wp 28 [5,1,59,60,61,94,0] hs rfl<|Ah ?_
    refine Bi (vs:=[_,_]) results61 rfl ⟨rfl,rfl,trivial⟩ ?_
    try dsimp only [tup]
    have hce:=Mu hb0 hb1 hpa (Td (k:=k) oM (Mt (.inl oM)))
    exact ⟨_,[],hs.done,.inr ⟨by omega,by rw [hce],rfl⟩⟩
   refine Wp 2 [] hs rfl<|Zg hs rfl (Yc rfl (fun h76=>?_) fun h76=>?_)
   ·
    refine Wp 25 [5,1,59,60,61,94,0] hs rfl<|Ah ?_
    refine Bi (vs:=[_,_]) results61 rfl ⟨rfl,rfl,trivial⟩ ?_
    try dsimp only [tup]
    have hce:=Mu hb0 hb1 hpa (Td (k:=k) oM (Mt (.inr (.inl oM))))
    exact ⟨_,[],hs.done,.inr ⟨by omega,by rw [hce],rfl⟩⟩
   refine Wp 8 [1,0] hs rfl<|Cl 81 rfl rfl (Sc (aQ) hs rfl fun v3 G' H' _ hR hG85 hs=>?_)
   obtain ⟨rfl,rfl⟩:=hR
   replace hs:=hs.n rfl
   replace hQ1:=hQ1.mono hG85
   cases h85:Re f.nodes[k].runs (f.nodes[k].vers.length:Int)
   ·
    refine Wp 16 [5,1,59,60,61,94,0] hs rfl<|Ah ?_
    refine Bi (vs:=[_,_]) results61 rfl ⟨rfl,rfl,trivial⟩ ?_
    try dsimp only [tup]
    have hce:=Mu hb0 hb1 hpa (Td (k:=k) oM (Mt (.inr (.inr (.inr (.inl h85))))))
    exact ⟨_,[],hs.done,.inr ⟨by omega,by rw [hce],rfl⟩⟩
   refine Wp 6 [2,0] hs rfl<|Cl 88 rfl rfl (Sc (aQ) hs rfl fun v4 G' H' _ hR hG92 hs=>?_)
   obtain ⟨rfl,rfl⟩:=hR
   replace hs:=hs.n rfl
   replace hQ1:=hQ1.mono hG92
   cases h92:Re f.nodes[k].claims (f.nodes[k].vers.length:Int)
   ·
    refine Wp 9 [5,1,59,60,61,94,0] hs rfl<|Ah ?_
    refine Bi (vs:=[_,_]) results61 rfl ⟨rfl,rfl,trivial⟩ ?_
    try dsimp only [tup]
    have hce:=Mu hb0 hb1 hpa (Td (k:=k) oM (Mt (.inr (.inr (.inr (.inr h92))))))
    exact ⟨_,[],hs.done,.inr ⟨by omega,by rw [hce],rfl⟩⟩
   refine Wp 6 [5,1,59,60,61,94] hs rfl<|Zy hs (Ya (s:=((k+1:Nat):Int)) rfl<|Wp 1 [] hs rfl<|Zx [1,59,60,61] rfl ⟨k+1,_,by omega,yJ oM hna (yI oM oM h71 h85 h92),hQ1,rfl,rfl,hs.done⟩)
  refine Wp 5 [0] hs rfl<|Zy hs (Yc rfl (fun h73=>?_) fun h73=>?_)
  ·
   refine Wp 28 [5,1,59,60,61,94,0] hs rfl<|Ah ?_
   refine Bi (vs:=[_,_]) results61 rfl ⟨rfl,rfl,trivial⟩ ?_
   try dsimp only [tup]
   have hce:=Mu hb0 hb1 hpa (Td (k:=k) oM (Mt (.inl oM)))
   exact ⟨_,[],hs.done,.inr ⟨by omega,by rw [hce],rfl⟩⟩
  refine Wp 2 [] hs rfl<|Zg hs rfl (Yc rfl (fun h76=>?_) fun h76=>?_)
  ·
   refine Wp 25 [5,1,59,60,61,94,0] hs rfl<|Ah ?_
   refine Bi (vs:=[_,_]) results61 rfl ⟨rfl,rfl,trivial⟩ ?_
   try dsimp only [tup]
   have hce:=Mu hb0 hb1 hpa (Td (k:=k) oM (Mt (.inr (.inl oM))))
   exact ⟨_,[],hs.done,.inr ⟨by omega,by rw [hce],rfl⟩⟩
  refine Wp 25 [5,1,59,60,61,94,0] hs rfl<|Ah ?_
  refine Bi (vs:=[_,_]) results61 rfl ⟨rfl,rfl,trivial⟩ ?_
  try dsimp only [tup]
  have hce:=Mu hb0 hb1 hpa (Td (k:=k) oM (Mt (.inr (.inr (.inl h71)))))
  exact ⟨_,[],hs.done,.inr ⟨by omega,by rw [hce],rfl⟩⟩
 refine Wp 4 [0] hs rfl ?_
 obtain rfl:k=f.nodes.length:=by omega
 rw [List.take_length] at hna
 refine Wu 2 [] hs rfl<|Zy hs (Cy (vs:=[.slice Ap f.progs.length cp,.slice An f.nodes.length cn,.slice Ae f.edges.length ce,.slice Ar f.routes.length cr]) isAgg43 sizeOf43 rfl hQ1.whole rfl ?_)
 cases he98:Gm f.nodes.length f.edges
 ·
  refine O_s (Sc (fnum_F hf hz he98) hs rfl fun v5 G' H' _ hR hG98 hs=>?_)
  obtain ⟨rfl,rfl⟩:=hR
  replace hs:=hs.n rfl
  refine Wp 18 [0,0,0] hs rfl<|Ah ?_
  refine Bi (vs:=[_,_]) results61 rfl ⟨rfl,rfl,trivial⟩ ?_
  try dsimp only [tup]
  have hce:=ce_edge hb0 hb1 hpa hna he98
  exact ⟨_,[],hs.done,.inr ⟨by omega,by rw [hce],rfl⟩⟩
 refine O_s (Sc (fnum_T hf hz he98) hs rfl fun v6 G' H' _ hR hG98 hs=>?_)
 obtain ⟨b98,rfl,rfl⟩:=hR
 replace hs:=hs.n rfl
 replace hf:=hf.mono hG98
 replace hQ1:=hQ1.mono hG98
 refine Wp 18 [0,0,3] hs rfl<|Zy hs (Yg rfl (hQ1 3 _ rfl)<|Wp 3 [0] hs rfl<|Zl [12,104,105,106] (fun m E w=>∃ (k:Nat) (G2:Ghost),k≤f.routes.length∧(f.routes.take k).all (Gh f.edges)=true∧m=f.routes.length-k∧E=⟨[],[(12,.map (some b98)),(104,.slice Ar f.routes.length cr),(105,Vi ((f.routes.length:Nat):Int)),(106,Vi (k:Int))]⟩∧St ⟨w0,G,Bl []⟩ G2 [.obj b98 (.map (Fi eK f.edges).toArray f.edges.length)] w) rfl (⟨0,_,by omega,by simp,rfl,rfl,hs⟩) fun m E w hI=>?_)
 obtain ⟨k,G2,hk,hra,rfl,rfl,hs⟩:=hI
 have hf:=hf0.mono hs.le
 refine Wt 2 [] hs rfl<|Zy hs (Yc rfl (fun h107=>?_) fun h107=>?_)
 ·
  refine Wp 8 [0] hs rfl<|Zy hs (Bp hf.r k underlying41 sizeOf33 rfl rfl rfl oM fun p108 c108 hp108 hc108 hR108=>?_)
  obtain ⟨u108,rfl,hv108⟩:=hR108
  obtain ⟨Ar8,cr8,rfl,_⟩:=id hv108
  refine Zy hs (Yg rfl (hp108 0 (.slice Ar8 f.routes[k].length cr8) rfl)<|Wp 6 [0] hs rfl<|O_s (Sc (frte_ok (Tc he98) hv108 (hz.r _ (List.getElem_mem _))) hs rfl fun v7 G' H' _ hR hG112 hs=>?_))
  obtain ⟨rfl,rfl⟩:=hR
  replace hs:=hs.n rfl
  cases h112:Gh f.edges f.routes[k]
  ·
   refine Wp 8 [0,0] hs rfl<|Ah ?_
   refine Bi (vs:=[_,_]) results61 rfl ⟨rfl,rfl,trivial⟩ ?_
   try dsimp only [tup]
   have hce:=yK hb0 hb1 hpa hna he98 (Td (k:=k) oM h112)
   exact ⟨_,[],hs.done,.inr ⟨by omega,by rw [hce],rfl⟩⟩
  refine Wp 5 [0] hs rfl<|Zy hs (Ya (s:=((k+1:Nat):Int)) rfl<|Wp 1 [] hs rfl<|Zx [12,104,105,106] rfl ⟨k+1,_,by omega,yJ oM hra h112,rfl,rfl,hs⟩)
 refine Wp 4 [0] hs rfl<|Wu 6 [0] hs rfl<|Ah ?_
 refine Bi (vs:=[_,_]) results61 rfl ⟨rfl,rfl,trivial⟩ ?_
 try dsimp only [tup]
 obtain rfl:k=f.routes.length:=by omega
 rw [List.take_length] at hra
 exact ⟨_,_,hs.weak hs.le (Cj _) (Ea [_] _),.inl ⟨ce_ok hb0 hb1 hpa hna he98 hra,b98,rfl,rfl⟩⟩
theorem yL {G:Ghost} {Ap An Ae Ar:Option Addr} {cp cn ce cr:Nat} {f:Cg} (hf:Ho G Ap An Ae Ar cp cn ce cr f) (hz:sU f) (hP:∀ p∈f.progs,OkP p) (hT:Tab G) (h:Dm f=0):Ai prog 61 [(.agg (fC Ap An Ae Ar cp cn ce cr f).toArray)] G [] fun r _ H'=>∃ b,r=.tuple #[.map (some b),Vi 0]∧H'=[.obj b (.map (Fi eK f.edges).toArray f.edges.length)]:=by
  refine (pQ hf hz hP hT).mono fun r G' H' _ h2=>?_
  rcases h2 with ⟨_,h2⟩ | ⟨h3,_⟩
  · exact h2
  · exact absurd h h3
theorem fchk_F {G:Ghost} {Ap An Ae Ar:Option Addr} {cp cn ce cr:Nat} {f:Cg} (hf:Ho G Ap An Ae Ar cp cn ce cr f) (hz:sU f) (hP:∀ p∈f.progs,OkP p) (hT:Tab G) (h:¬ Dm f=0):Ai prog 61 [(.agg (fC Ap An Ae Ar cp cn ce cr f).toArray)] G [] fun r _ H'=>H'=[]∧r=.tuple #[.map none,Vi (Dm f)]:=by
  refine (pQ hf hz hP hT).mono fun r G' H' _ h2=>?_
  rcases h2 with ⟨h3,_⟩ | ⟨_,h4,h5⟩
  · exact absurd h3 h
  · exact ⟨h5,h4⟩
theorem Qw {f:Cg} (h:Dm f=0):¬ (16<f.progs.length∨24<f.nodes.length∨100<f.routes.length)∧¬ (f.progs.length=0∨f.nodes.length=0)∧f.nodes.all (Km f.progs.length)=true∧Gm f.nodes.length f.edges=true∧f.routes.all (Gh f.edges)=true:=by
  unfold Dm at h
  split at h
  · cases h
  · rename_i h0
    split at h
    · cases h
    · rename_i h1
      split at h
      · cases h
      · split at h
        · cases h
        · rename_i h3
          split at h
          · cases h
          · rename_i h4
            split at h
            · cases h
            · rename_i h5
              exact ⟨h0,h1,by simpa using h3,by simpa using h4,by simpa using h5⟩
theorem Ot {np:Int} {x:Oq} (h:Km np x=true):1≤x.vers.length∧x.vers.length≤8∧(∀ v∈x.vers,0≤v∧v<np)∧(0≤x.runs∧x.runs<x.vers.length)∧(0≤x.claims∧x.claims<x.vers.length):=by
  unfold Km at h
  simp only [Bool.and_eq_true,decide_eq_true_eq,List.all_eq_true] at h
  exact ⟨h.1.1,h.1.2,fun v hv=>Iv.1 (h.2.1 v hv),Iv.1 h.2.2.1,Iv.1 h.2.2.2⟩
def Wn (a b:Int):Bool:=decide (a<b)
theorem ordI:Ordr Wn:=⟨fun a b h=>by simp only [Wn,decide_eq_true_eq,decide_eq_false_iff_not] at *;omega,fun a b c h1 h2=>by simp only [Wn,decide_eq_false_iff_not] at *;omega⟩
section
variable {α:Type}
theorem sw_row {f:α→Value} {p p' t:List α} {x y:α} (h:p=p'++[y]):((((p++x::t).map f).set p.length (f y)).set (p.length-1) (f x))=(p'++x::y::t).map f:=by
  subst h
  have h1:=uH (p:=p') (t:=t) (x:=x) (y:=y)
  rw [← h1,List.map_set,List.map_set]
  simp
theorem yM {f:α→Value} {p t:List α} {x:α}:((p++x::t).map f)[p.length]?=some (f x):=by simp
theorem yN {f:α→Value} {p p' t:List α} {x y:α} (h:p=p'++[y]):((p++x::t).map f)[p.length-1]?=some (f y):=by subst h;simp
theorem last_of {p:List α} (h:0<p.length):∃ p' y,p=p'++[y]:=by
  rcases List.eq_nil_or_concat p with rfl | ⟨p',y,rfl⟩
  · cases h
  · exact ⟨p',y,List.concat_eq_append⟩
theorem head_of {s r:List α} {i n:Nat} (h1:(s++r).length=n) (h2:i<n) (h3:s.length=i∨r=[]) (h4:s.length≤i):∃ x r',r=x::r'∧s.length=i:=by
  cases r with
  | nil=>rw [List.append_nil] at h1;omega
  | cons x r' =>
    rcases h3 with h3 | h3
    · exact ⟨x,r',rfl,h3⟩
    · cases h3
end
theorem srt_one {α:Type} {lt:α→α→Bool} (l:List α):Srt lt (l.take 1):=by
  cases l with
  | nil=>exact List.Pairwise.nil
  | cons a l=>exact List.pairwise_singleton _ _
theorem fD {G:Ghost} {s:Int} :
  Ai prog 65 [Vi s] G [] fun r _ H'=>H'=[]∧r=Vf:=by
 refine Ai.of_T [(0,_)] func65 rfl ntmps65 sM rfl fun w0 hs =>Wt 8 [0] hs rfl<|Zy hs (Cv rfl rfl rfl oM<|Wp 2 [0] hs rfl<|Ah<|Zz results65 rfl ?_)
 exact ⟨_,[],hs.done,rfl,rfl⟩
theorem yO {G:Ghost} {s t:Int} :
  Ai prog 122 [Vi s,Vi t] G [] fun r _ H'=>H'=[]∧r=.bool (Wn s t):=by
 refine Ai.of_T [(0,_),(1,_)] func122 rfl ntmps122 sM rfl fun w0 hs =>Wt 7 [0] hs rfl<|O_s (Sc (fD) hs rfl fun v1 G' H' _ hR hG6 hs=>?_)
 obtain ⟨rfl,rfl⟩:=hR
 replace hs:=hs.n rfl
 refine Wp 8 [] hs rfl<|Zg hs rfl (Yc rfl (fun h15=>?_) fun h15=>?_)
 ·
  refine Wp 3 [0] hs rfl<|Ah<|Zz results122 rfl ?_
  exact ⟨_,[],hs.done,rfl,congrArg Value.bool (by unfold Wn;rw [eq_comm];exact decide_eq_true oM)⟩
 refine Wp 3 [0] hs rfl<|Ah<|Zz results122 rfl ?_
 exact ⟨_,[],hs.done,rfl,congrArg Value.bool (by unfold Wn;rw [eq_comm];exact decide_eq_false oM)⟩
theorem insi_ok {G:Ghost} {bq cq n:Nat} {l:List Int} (hl:l.length=n) (hn:n≤12) :
  Ai prog 116 [Vs bq n cq,Vi 0,Vi (n:Int)] G [.row 3 1 (Vs bq n cq) n (l.map (.int .i64))] fun r _ H'=>∃ l',l'.Perm l∧Srt Wn l'∧H'=[.row 3 1 (Vs bq n cq) n (l'.map (.int .i64))]:=by
 refine Ai.of_T [(0,_),(1,_),(2,_)] func116 rfl ntmps116 sM rfl fun w0 hs =>Wt 3 [] hs rfl<|Zy hs (Ef rfl rfl rfl oM<|Wp 2 [0] hs rfl<|Zl [0,1,2,6] (fun m E w=>∃ (i:Nat) (s r:List Int) (G2:Ghost),1≤i∧i≤13∧s.length≤i∧(s.length=i∨r=[])∧Srt Wn s∧(s++r).Perm l∧m=n-i∧E=⟨[],[(0,(Vs bq n cq)),(1,Vi 0),(2,Vi (n:Int)),(6,Vi (i:Int))]⟩∧St ⟨w0,G,Bl [.row 3 1 (Vs bq n cq) n (l.map (.int .i64))]⟩ G2 [.row 3 1 (Vs bq n cq) n ((s++r).map (.int .i64))] w) rfl (⟨1,l.take 1,l.drop 1,_,by omega,by omega,by rw [List.length_take];omega,by rw [List.length_take];rcases Nat.eq_zero_or_pos l.length with h0 | h0;exact .inr (List.drop_eq_nil_of_le oM);exact .inl oM,srt_one _,by rw [List.take_append_drop],rfl,rfl,by rw [List.take_append_drop];exact hs⟩) fun m E w hI=>?_)
 obtain ⟨i,s,r,G2,hi1,hi2,hsi,hsr,hss,hpm,rfl,rfl,hs⟩:=hI
 have hpl:=hpm.length_eq
 refine Wt 5 [] hs rfl<|Zy hs (Yc rfl (fun h12=>?_) fun h12=>?_)
 ·
  refine Wp 10 [0,0] hs rfl ?_
  obtain ⟨x,r',rfl,hsl⟩:=head_of (n:=n) (i:=i) oM oM hsr hsi
  refine Zl [0,1,2,6,7] (fun m E w=>∃ (p q:List Int) (G2:Ghost),p.length+q.length=i∧Srt Wn (p++q)∧(∀ b∈q,Wn b x=false)∧(p++x::(q++r')).Perm l∧m=p.length∧E=⟨[],[(0,(Vs bq n cq)),(1,Vi 0),(2,Vi (n:Int)),(6,Vi (i:Int)),(7,Vi (p.length:Int))]⟩∧St ⟨w0,G,Bl [.row 3 1 (Vs bq n cq) n (l.map (.int .i64))]⟩ G2 [.row 3 1 (Vs bq n cq) n ((p++x::(q++r')).map (.int .i64))] w) rfl (⟨s,[],_,by simp;omega,by simpa using hss,by simp,by simpa using hpm,hsl.symm,by rw [hsl],by simpa using hs⟩) fun m E w hI=>?_
  obtain ⟨p,q,G2,hpi,hpq,hqx,hpx,rfl,rfl,hs⟩:=hI
  have hpl2:=hpx.length_eq
  refine Wt 2 [] hs rfl<|Bb [0,1,2,3,4,5,6,7,8,9,10,11,12,13,14] hs kR ?_
  replace hs:=hs.drew
  refine Xr [0,1] [] hs rfl<|Xt 2 hs rfl (Jd rfl rfl rfl (fun h18=>?_) (fun h18=>?_))
  ·
   dsimp only [Gq] at h18
   refine Xr [3,4,5] [] hs rfl ?_
   obtain ⟨p',y,hpe⟩:=last_of (p:=p) oM
   refine Xt 6 hs rfl (Bj (p.length) underlying33 sizeOf3 rfl rfl rfl Z50<|Xt 7 hs rfl (Dk 0 rfl isAgg3 rfl (yM)<|Xr [8,9] [] hs rfl<|Xt 10 hs rfl (Fp (c:=((p.length-1:Nat):Int)) rfl rfl oM oM<|Xt 11 hs rfl (Bj (p.length-1) underlying33 sizeOf3 rfl rfl rfl Z50<|Xt 12 hs rfl (Dk 0 rfl isAgg3 rfl (yN hpe) ?_)))))
   have hle:=hs.le
   refine Xo 13 rfl (Sc (yO) hs rfl fun v1 G' H' _ hR hG29 hs=>?_)
   obtain ⟨rfl,rfl⟩:=hR
   replace hs:=hs.n rfl
   cases h29:Wn x y
   ·
    refine Am hs hle hG29 (Df _)<|Xr [14] [] hs rfl<|Xe (Zk [0,1,2,6,7,30] rfl<|Wu 2 [] hs rfl<|Wu 2 [] hs rfl<|Zy hs (Ya (s:=((i+1:Nat):Int)) rfl<|Wp 1 [] hs rfl ?_))
    have hst:Srt Wn (p++x::q):=Srt.stop ordI hpq hqx (.inr ⟨p',y,hpe,h29⟩)
    refine Zx [0,1,2,6] rfl ⟨i+1,p++x::q,r',_,by omega,by omega,by simp;omega,.inl Lk,hst,by simpa using hpx,rfl,rfl,Bz hs sM⟩
   refine Am hs hle hG29 (Df _)<|Xr [14] [] hs rfl<|Xe (Zk [0,1,2,6,7,30] rfl<|Wu 4 [] hs rfl<|Bb [0,1,5,6,7,8,9,10,11,12,13,14] hs kR ?_)
   replace hs:=hs.drew
   refine Lc 2 rfl kR rfl (Tt rfl<|Lc 3 rfl kR rfl (Tt rfl<|Lc 4 rfl kR rfl (Fp (c:=((p.length - 1:Nat):Int)) rfl rfl oM oM<|Xr [0,1,5,6] [] hs rfl<|Xt 7 hs rfl (Fp (c:=((p.length - 1:Nat):Int)) rfl rfl oM oM<|Xt 8 hs rfl (Bj (p.length - 1) underlying33 sizeOf3 rfl rfl rfl Z50<|Xt 9 hs rfl (Dk 0 rfl isAgg3 rfl (yN hpe)<|Xr [10,11] [] hs rfl<|Xt 12 hs rfl (Bj (p.length) underlying33 sizeOf3 rfl rfl rfl Z50<|Xt 13 hs rfl (Dk 0 rfl isAgg3 rfl (yM)<|Xt 14 hs rfl (Bj (p.length) underlying33 sizeOf3 rfl rfl rfl Z50<|Xn 15 rfl (Cu hs sizeOf3 rfl rfl rfl oM fun _ hs =>Xa 16 rfl (S_y hs rfl (Bj (p.length - 1) underlying33 sizeOf3 rfl rfl rfl Z50<|Xn 17 rfl (Cu hs sizeOf3 rfl rfl rfl oM fun _ hs =>Xe (Zk [0,1,2,6,7] rfl<|Wu 2 [] hs rfl<|Zy hs (Fp (c:=((p.length - 1:Nat):Int)) rfl rfl oM oM<|Wp 1 [] hs rfl ?_)))))))))))))))
   obtain ⟨hpq2,hqx2⟩:=Srt.swap (p:=p') (q:=q) ordI (by rw [← hpe];exact hpq) hqx h29
   have hpl3:p.length=p'.length+1:=by rw [hpe];simp
   refine Zx [0,1,2,6,7] rfl ⟨p',y::q,_,by simp;omega,hpq2,hqx2,by rw [hpe] at hpx;refine List.Perm.trans ?_ hpx;rw [List.append_assoc];exact List.Perm.append_left _ (List.Perm.swap _ _ _),rfl,by rw [hpl3];simp,Bz hs (by rw [sw_row hpe];simp)⟩
  dsimp only [Gq] at h18
  refine Xr [3,4,5,6,7,8,9,10,11,12,13,14] [] hs rfl<|Xe (Zk [0,1,2,6,7,30] rfl<|Wu 2 [] hs rfl<|Wu 2 [] hs rfl<|Zy hs (Ya (s:=((i+1:Nat):Int)) rfl<|Wp 1 [] hs rfl ?_))
  have hst:Srt Wn (p++x::q):=Srt.stop ordI hpq hqx (.inl (List.eq_nil_of_length_eq_zero oM))
  refine Zx [0,1,2,6] rfl ⟨i+1,p++x::q,r',_,by omega,by omega,by simp;omega,.inl Lk,hst,by simpa using hpx,rfl,rfl,Bz hs sM⟩
 refine Wp 3 [0] hs rfl ?_
 try dsimp only [Ex.At,Ex.sqs,Ex.sq,Ex.lp,Ex.bk]
 try rw [show Nat.beq _ _=true from Nat.beq_refl _,cond_true]
 refine Ff (vs:=[]) results116 rfl trivial ?_
 try dsimp only [tup]
 have hre:r=[]:=by rcases hsr with h | h;exact List.eq_nil_of_length_eq_zero (by rw [List.length_append] at hpl;omega);exact h
 subst hre
 rw [List.append_nil] at hpm hs
 exact ⟨_,_,hs,s,hpm,hss,rfl⟩
theorem pdqi_ok {G:Ghost} {bq cq n:Nat} {z:Int} {l:List Int} (hl:l.length=n) (hn:n≤12) :
  Ai prog 92 [Vs bq n cq,Vi 0,Vi (n:Int),Vi z] G [.row 3 1 (Vs bq n cq) n (l.map (.int .i64))] fun r _ H'=>∃ l',l'.Perm l∧Srt Wn l'∧H'=[.row 3 1 (Vs bq n cq) n (l'.map (.int .i64))]:=by
 refine Ai.of_T [(0,_),(1,_),(2,_),(3,_)] func92 rfl ntmps92 sM rfl fun w0 hs =>Wt 8 [0,0] hs rfl<|Dt (En 1 (L:=[(0,_),(1,_),(2,_),(3,_),(8,_),(9,_)]) ⟨rfl,rfl,rfl,rfl,rfl,rfl,trivial⟩ (Gt<|Wt 5 [] hs rfl<|Zy hs (Fp (c:=(n:Int)) rfl rfl oM oM<|Wp 6 [0] hs rfl<|Zy hs (Hl rfl rfl rfl oM<|Wp 7 [0] hs rfl<|O_s (Sc (insi_ok hl hn) hs rfl fun v1 G' H' _ hR hG27 hs=>?_)))))
 obtain ⟨l',hpl,hsl,rfl⟩:=hR
 replace hs:=hs.n rfl
 refine Wp 1 [0] hs rfl<|Ah ?_
 refine Bi (vs:=[]) results92 rfl trivial ?_
 try dsimp only [tup]
 exact ⟨_,_,hs,l',hpl,hsl,rfl⟩
theorem srti_ok {G:Ghost} {bq cq n:Nat} {l:List Int} (hl:l.length=n) (hn:n≤12) :
  Ai prog 62 [Vs bq n cq] G [.row 3 1 (Vs bq n cq) n (l.map (.int .i64))] fun r _ H'=>∃ l',l'.Perm l∧Srt Wn l'∧H'=[.row 3 1 (Vs bq n cq) n (l'.map (.int .i64))]:=by
 refine Ai.of_T [(0,_)] func62 rfl ntmps62 sM rfl fun w0 hs =>Wt 10 [0] hs rfl<|Zy hs (Dl underlying3 underlying162 (c:=(n:Int)) rfl (by rw [IntKind.wrap_u64];omega)<|O_s (Sc (Wl (a:=n) oM) hs rfl fun v1 G' H' _ hR hG9 hs=>?_))
 obtain ⟨rfl,z,rfl⟩:=hR
 replace hs:=hs.n rfl
 refine O_s (Sc (pdqi_ok hl hn) hs rfl fun v2 G' H' _ hR hG10 hs=>?_)
 obtain ⟨l',hpl,hsl,rfl⟩:=hR
 replace hs:=hs.n rfl
 refine Cm (Ff (vs:=[]) results62 rfl trivial ?_)
 try dsimp only [tup]
 exact ⟨_,_,hs,l',hpl,hsl,rfl⟩
theorem insn_ok {G:Ghost} :
  Ai prog 116 [Vn,Vi 0,Vi 0] G [.row 3 1 (Vn) 0 []] fun r _ H'=>H'=[.row 3 1 (Vn) 0 []]:=by
 refine Ai.of_T [(0,_),(1,_),(2,_)] func116 rfl ntmps116 sM rfl fun w0 hs =>Wt 3 [] hs rfl<|Zy hs (Ef (c:=(1)) rfl rfl dC dC<|Wp 2 [0] hs rfl<|Dt (En 1 (L:=[(0,_),(1,_),(2,_),(6,_)]) ⟨rfl,rfl,rfl,rfl,trivial⟩ (Gt<|Wt 9 [0] hs rfl ?_)))
 try dsimp only [Ex.At,Ex.sqs,Ex.sq,Ex.lp,Ex.bk]
 try rw [show Nat.beq _ _=true from Nat.beq_refl _,cond_true]
 refine Ff (vs:=[]) results116 rfl trivial ?_
 try dsimp only [tup]
 exact ⟨_,_,hs,rfl⟩
theorem pdqn_ok {G:Ghost} {z:Int} :
  Ai prog 92 [Vn,Vi 0,Vi 0,Vi z] G [.row 3 1 (Vn) 0 []] fun r _ H'=>H'=[.row 3 1 (Vn) 0 []]:=by
 refine Ai.of_T [(0,_),(1,_),(2,_),(3,_)] func92 rfl ntmps92 sM rfl fun w0 hs =>Wt 8 [0,0] hs rfl<|Dt (En 1 (L:=[(0,_),(1,_),(2,_),(3,_),(8,_),(9,_)]) ⟨rfl,rfl,rfl,rfl,rfl,rfl,trivial⟩ (Gt<|Wt 5 [] hs rfl<|Zy hs (Fp (c:=(0)) rfl rfl dC dC<|Wp 14 [0,0] hs rfl<|O_s (Sc (insn_ok) hs rfl fun v1 G' H' _ hR hG27 hs=>?_))))
 obtain rfl:=hR
 replace hs:=hs.n rfl
 refine Wp 1 [0] hs rfl<|Ah ?_
 refine Bi (vs:=[]) results92 rfl trivial ?_
 try dsimp only [tup]
 exact ⟨_,_,hs,rfl⟩
theorem srtn_ok {G:Ghost} :
  Ai prog 62 [Vn] G [.row 3 1 (Vn) 0 []] fun r _ H'=>H'=[.row 3 1 (Vn) 0 []]:=by
 refine Ai.of_T [(0,_)] func62 rfl ntmps62 sM rfl fun w0 hs =>Wt 10 [0] hs rfl<|Zy hs (Dl underlying3 underlying162 (c:=0) rfl dC<|O_s (Sc (Wl (a:=0) oM) hs rfl fun v1 G' H' _ hR hG9 hs=>?_))
 obtain ⟨rfl,z,rfl⟩:=hR
 replace hs:=hs.n rfl
 refine O_s (Sc (pdqn_ok) hs rfl fun v2 G' H' _ hR hG10 hs=>?_)
 obtain rfl:=hR
 replace hs:=hs.n rfl
 refine Cm (Ff (vs:=[]) results62 rfl trivial ?_)
 try dsimp only [tup]
 exact ⟨_,_,hs,rfl⟩
section
variable {α:Type} [DecidableEq α]
theorem Us {l:List α} (h:l.length<2):Gi l=l:=by
  match l,h with
  | [],_=>rfl
  | [a],_=>rfl
theorem sW {l:List α}:Gi (l.take 1)=l.take 1:=Us (by rw [List.length_take];omega)
theorem mU {l:List α} {i:Nat} (h1:1≤i) (h:i≤l.length):(l.take i).getLast?=some (l[i-1]'oM):=by
  rw [List.getLast?_eq_getElem?,List.length_take,Nat.min_eq_left h,List.getElem?_take_of_lt oM,List.getElem?_eq_getElem oM]
theorem Tf {l:List α} {i:Nat} (h1:1≤i) (h:i<l.length):Gi (l.take (i+1))=if l[i-1]'oM=l[i] then Gi (l.take i) else Gi (l.take i)++[l[i]]:=by
  rw [Ed h,Pe,qW,mU h1 oM]
  simp only [Option.some.injEq]
theorem cpt_new {l:List α} {i:Nat} (h1:1≤i) (h:i<l.length) (hd:Gi (l.take i)=l.take i) (hn:¬ l[i]=l[i-1]'oM):Gi (l.take (i+1))=l.take (i+1):=by
  rw [Tf h1 h,if_neg (fun e=>hn e.symm),hd,Ed h]
theorem cpt_dup {l:List α} {i:Nat} (h1:1≤i) (h:i<l.length) (hd:Gi (l.take i)=l.take i) (hn:l[i]=l[i-1]'oM):Gi (l.take (i+1))=l.take i:=by
  rw [Tf h1 h,if_pos hn.symm,hd]
structure Tg (l xs:List α) (i k:Nat):Prop where
  len:xs.length=l.length
  kk:k=(Gi (l.take i)).length
  pre:xs.take k=Gi (l.take i)
  same:∀ t,i-1≤t→xs[t]?=l[t]?
  lt:k<i
theorem Tg.start {l:List α} {i:Nat} (h1:1≤i) (h:i<l.length) (hd:Gi (l.take i)=l.take i) (hn:l[i]=l[i-1]'oM):Tg l l (i+1) i:=by
  have e:=cpt_dup h1 h hd hn
  exact ⟨rfl,by rw [e,List.length_take];omega,by rw [e],fun _ _=>rfl,by omega⟩
theorem Tg.skip {l xs:List α} {i k:Nat} (c:Tg l xs i k) (h1:1≤i) (h:i<l.length) (hn:l[i]=l[i-1]'oM):Tg l xs (i+1) k:=by
  have e:Gi (l.take (i+1))=Gi (l.take i):=by rw [Tf h1 h,if_pos hn.symm]
  exact ⟨c.len,by rw [e];exact c.kk,by rw [e];exact c.pre,fun t ht=>c.same t oM,by have:=c.lt;omega⟩
theorem Tg.put {l xs:List α} {i k:Nat} (c:Tg l xs i k) (h1:1≤i) (h:i<l.length) (hn:¬ l[i]=l[i-1]'oM):Tg l (xs.set k l[i]) (i+1) (k+1):=by
  have e:Gi (l.take (i+1))=Gi (l.take i)++[l[i]]:=by rw [Tf h1 h,if_neg (fun e=>hn e.symm)]
  have hlt:=c.lt
  have hlen:=c.len
  refine ⟨by rw [List.length_set];exact c.len,by rw [e,List.length_append,← c.kk];rfl,?_,fun t ht=>?_,by omega⟩
  · rw [e,← c.pre,Ed (by rw [List.length_set];omega),List.getElem_set_self,List.take_set_of_le (Nat.le_refl k)]
  · rw [List.getElem?_set,if_neg oM];exact c.same t oM
theorem Tg.at_ {l xs:List α} {i k:Nat} {f:α→Value} (c:Tg l xs i k) {t:Nat} (h:i-1≤t) (ht:t<l.length):(xs.map f)[t]?=some (f l[t]):=by
  rw [List.getElem?_map,c.same t h,List.getElem?_eq_getElem ht];rfl
theorem Tg.fin {l xs:List α} {i k:Nat} (c:Tg l xs i k) (h:i=l.length):xs.take k=Gi l∧k=(Gi l).length:=by
  have h1:=c.pre
  have h2:=c.kk
  rw [h,List.take_length] at h1 h2
  exact ⟨h1,h2⟩
end
theorem cmpi_ok {G:Ghost} {bq cq n:Nat} {l:List Int} (hl:l.length=n) (hn:n≤12) (hc:n≤cq) :
  Ai prog 63 [Vs bq n cq] G [.row 3 1 (Vs bq n cq) n (l.map (.int .i64))] fun r _ H'=>∃ k,k=(Gi l).length∧r=Vs bq k cq∧H'=[.row 3 1 (Vs bq k cq) k ((Gi l).map (.int .i64))]:=by
 refine Ai.of_T [(0,_)] func63 rfl ntmps63 sM rfl fun w0 hs =>Wt 9 [0] hs rfl<|Zy hs (Yc rfl (fun h8=>?_) fun h8=>?_)
 ·
  refine Wp 7 [0,0] hs rfl<|Ah<|Zz results63 rfl ?_
  exact ⟨_,_,hs,n,by rw [Us oM,hl],rfl,by rw [Us oM]⟩
 refine Wp 8 [0,0] hs rfl<|Zl [0,3] (fun m E w=>∃ (i:Nat) (G2:Ghost),1≤i∧i≤n∧Gi (l.take i)=l.take i∧m=n-i∧E=⟨[],[(0,(Vs bq n cq)),(3,Vi (i:Int))]⟩∧St ⟨w0,G,Bl [.row 3 1 (Vs bq n cq) n (l.map (.int .i64))]⟩ G2 [.row 3 1 (Vs bq n cq) n (l.map (.int .i64))] w) rfl (⟨1,_,by omega,by omega,sW,rfl,rfl,hs⟩) fun m E w hI=>?_
 obtain ⟨i,G2,hi1,hi2,hcp,rfl,rfl,hs⟩:=hI
 refine Wt 6 [] hs rfl<|Zy hs (Yc rfl (fun h13=>?_) fun h13=>?_)
 ·
  refine Wp 6 [0] hs rfl<|Bb [0,1,2,3,4,5,6,7,8,9] hs kR ?_
  replace hs:=hs.drew
  refine Xr [0,1] [] hs rfl<|Xt 2 hs rfl (Bj (i) underlying33 sizeOf3 rfl rfl rfl oM<|Xt 3 hs rfl (Dk 0 rfl isAgg3 rfl (by rw [List.getElem?_map,List.getElem?_eq_getElem oM];rfl) ?_))
  refine Xr [4,5] [] hs rfl<|Xt 6 hs rfl (Fp (c:=((i-1:Nat):Int)) rfl rfl oM oM<|Xt 7 hs rfl (Bj (i-1) underlying33 sizeOf3 rfl rfl rfl oM<|Xt 8 hs rfl (Dk 0 rfl isAgg3 rfl (by rw [List.getElem?_map,List.getElem?_eq_getElem oM];rfl) ?_)))
  refine Xt 9 hs rfl (Jd rfl rfl rfl (fun h25=>?_) (fun h25=>?_))
  ·
   dsimp only [Gq] at h25
   refine Xe (Zk [0,3,25] rfl<|Wu 5 [] hs rfl<|Zy hs (Rw (off:=i) i underlying33 sizeOf3 rfl rfl rfl oM hc oM<|Wp 7 [0,0] hs rfl<|Zl [0,3,4,5] (fun m E w=>∃ (j k:Nat) (xs:List Int) (G2:Ghost),1≤j∧i+j≤n∧Tg l xs (i+j) k∧m=n-j∧E=⟨[],[(0,(Vs bq n cq)),(3,Vi (k:Int)),(4,.slice (some ⟨bq,i,none⟩) (n-i) (cq-i)),(5,Vi (j:Int))]⟩∧St ⟨w0,G,Bl [.row 3 1 (Vs bq n cq) n (l.map (.int .i64))]⟩ G2 [.row 3 1 (Vs bq n cq) n (xs.map (.int .i64))] w) rfl (⟨1,i,l,_,by omega,by omega,Tg.start hi1 oM hcp h25,rfl,rfl,hs⟩) fun m E w hI=>?_))
   obtain ⟨j,k,xs,G2,hj1,hj2,hcm,rfl,rfl,hs⟩:=hI
   have hkl:=hcm.lt
   refine Wt 6 [] hs rfl<|Zy hs (Yc rfl (fun h32=>?_) fun h32=>?_)
   ·
    refine Wp 6 [0] hs rfl<|Bb [0,1,2,3,4,5,6,7,8,9] hs kR ?_
    replace hs:=hs.drew
    refine Xr [0,1] [] hs rfl<|Xt 2 hs rfl (Qm (r:=i+j) i (j) underlying33 sizeOf3 rfl rfl rfl oM oM oM<|Xt 3 hs rfl (Dk 0 rfl isAgg3 rfl (hcm.at_ oM oM)<|Xr [4,5] [] hs rfl<|Xt 6 hs rfl (Fp (c:=((j-1:Nat):Int)) rfl rfl oM oM<|Xt 7 hs rfl (Qm (r:=i+j-1) i (j-1) underlying33 sizeOf3 rfl rfl rfl oM oM oM<|Xt 8 hs rfl (Dk 0 rfl isAgg3 rfl (hcm.at_ oM oM)<|Xt 9 hs rfl (Jd rfl rfl rfl (fun h44=>?_) (fun h44=>?_)))))))
    ·
     dsimp only [Gq] at h44
     refine Xe (Zk [0,3,4,5,44] rfl<|Wu 7 [] hs rfl<|Zy hs (Qm (r:=i+j) i (j) underlying33 sizeOf3 rfl rfl rfl oM oM oM<|Zy hs (Dk 0 rfl isAgg3 rfl (hcm.at_ oM oM)<|Zy hs (Bj (k) underlying33 sizeOf3 rfl rfl rfl oM<|O_n (Cu hs sizeOf3 rfl rfl rfl oM fun _ hs =>Wp 3 [0] hs rfl<|Zy hs (Ya (s:=((k+1:Nat):Int)) rfl<|Wp 4 [0] hs rfl<|Zy hs (Ya (s:=((j+1:Nat):Int)) rfl<|Wp 1 [] hs rfl<|Zx [0,3,4,5] rfl ⟨j+1,k+1,xs.set k (l[i+j]'oM),_,by omega,by omega,hcm.put oM oM h44,rfl,rfl,by rw [List.map_set];exact hs⟩)))))))
    dsimp only [Gq] at h44
    refine Xe (Zk [0,3,4,5,44] rfl<|Wu 4 [] hs rfl<|Zy hs (Ya (s:=((j+1:Nat):Int)) rfl<|Wp 1 [] hs rfl<|Zx [0,3,4,5] rfl ⟨j+1,k,xs,_,by omega,by omega,hcm.skip oM oM (by simpa using h44),rfl,rfl,hs⟩))
   refine Wp 3 [0] hs rfl<|Wu 4 [] hs rfl<|Zy hs (Rw (off:=k) k underlying33 sizeOf3 rfl rfl rfl oM hc oM<|O_n (iG (m:=k) hs underlying33 zeroValue3 rfl dC rfl rfl oM oM fun _ hs =>Wp 5 [0] hs rfl<|Zy hs (iF k underlying33 sizeOf3 rfl rfl rfl oM hc oM<|Wp 2 [0] hs rfl<|Ah<|Zz results63 rfl ?_)))
   have hfi:=hcm.fin oM
   exact ⟨_,_,hs,k,hfi.2,rfl,by rw [← hfi.1];simp [List.map_take]⟩
  dsimp only [Gq] at h25
  refine Xe (Zk [0,3,25] rfl<|Wu 4 [] hs rfl<|Zy hs (Ya (s:=((i+1:Nat):Int)) rfl<|Wp 1 [] hs rfl<|Zx [0,3] rfl ⟨i+1,_,by omega,by omega,cpt_new hi1 oM hcp h25,rfl,rfl,hs⟩))
 refine Wp 3 [0] hs rfl<|Wu 5 [0] hs rfl<|Ah<|Zz results63 rfl ?_
 obtain rfl:i=n:=by omega
 rw [← hl,List.take_length] at hcp
 exact ⟨_,_,hs,i,by rw [hcp,hl],rfl,by rw [hcp]⟩
theorem cmpn_ok {G:Ghost} :
  Ai prog 63 [Vn] G [.row 3 1 (Vn) 0 []] fun r _ H'=>r=Vn∧H'=[.row 3 1 (Vn) 0 []]:=by
 refine Ai.of_T [(0,_)] func63 rfl ntmps63 sM rfl fun w0 hs =>Wt 17 [0,0,0] hs rfl<|Ah<|Zz results63 rfl ?_
 exact ⟨_,_,hs,rfl,rfl⟩
def cE (a b:Int):Int:=if a<b then -1 else if b<a then 1 else 0
def cmpQ (a b:Int×Int):Int:=if cE a.1 b.1=0 then cE a.2 b.2 else cE a.1 b.1
def kU (a b:Int×Int):Bool:=decide (cmpQ a b<0)
theorem Kx {a b:Int×Int}:kU a b=true↔a.1<b.1∨(a.1=b.1∧a.2<b.2):=by
  unfold kU cmpQ cE
  rw [decide_eq_true_iff]
  split<;>(repeat' split)<;>omega
theorem aR {a b:Int×Int}:kU a b=false↔¬ (a.1<b.1∨(a.1=b.1∧a.2<b.2)):=by rw [← Kx,Bool.not_eq_true]
def prC (e:Int×Int):List Value:=[Vi e.1,Vi e.2]
def kV (l:List (Int×Int)):List Value:=l.flatMap prC
theorem fE (a b:List (Int×Int)):kV (a++b)=kV a++kV b:=List.flatMap_append
section
variable {x:Cx} {W:World→Prop} {E:Env} {K:Value→Prop} {d:Option Tmp} {ty:TypeId} {pos:String} {aft:Array Edge} {g:Option (Nat×Bool)} {o:Operand}
end
theorem aT {c:Ctx} {G:Ghost} {H:List Res} {w:World} {e k n:Nat} {v:Value} {xs:List Value} (hs:St c G (.row e k v n xs::H) w):(v=Vn∧n=0∧xs=[])∨∃ b cap,v=Vs b n cap∧n≤cap:=by
  have hr:w.ownsRow 0 e k v n xs:=hs.hold (.row e k v n xs) sM
  rcases hr.2 with ⟨h1,h0⟩ | ⟨b,cap,cur,h1,_,_,h2,_⟩
  · exact .inl ⟨h1,h0,List.eq_nil_of_length_eq_zero (by rw [hr.1,h0,Nat.zero_mul])⟩
  · exact .inr ⟨b,cap,h1,h2⟩
theorem jN {G:Ghost} {a b:Int} :
  Ai prog 44 [Vi a,Vi b] G [] fun r _ H'=>H'=[]∧r=Vi (cE a b):=by
 refine Ai.of_T [(0,_),(1,_)] func44 rfl ntmps44 sM rfl fun w0 hs =>Wt 7 [0] hs rfl<|O_s (Sc (fD) hs rfl fun v1 G' H' _ hR hG8 hs=>?_)
 obtain ⟨rfl,rfl⟩:=hR
 replace hs:=hs.n rfl
 refine Wp 5 [0] hs rfl<|O_s (Sc (fD) hs rfl fun v2 G' H' _ hR hG10 hs=>?_)
 obtain ⟨rfl,rfl⟩:=hR
 replace hs:=hs.n rfl
 refine Wp 21 [0,0,0] hs rfl<|Zy hs (Yc rfl (fun h16=>?_) fun h16=>?_)
 ·
  refine Wp 6 [0,0] hs rfl<|Ah<|Zz results44 rfl ?_
  exact ⟨_,[],hs.done,rfl,congrArg (Value.int .i64) (by unfold cE;rw [if_pos oM])⟩
 refine Wp 8 [0] hs rfl<|Zy hs (Yc rfl (fun h19=>?_) fun h19=>?_)
 ·
  refine Wp 6 [0,0] hs rfl<|Ah<|Zz results44 rfl ?_
  exact ⟨_,[],hs.done,rfl,congrArg (Value.int .i64) (by unfold cE;rw [if_neg oM,if_pos oM])⟩
 refine Wp 7 [0,0] hs rfl<|Ah<|Zz results44 rfl ?_
 exact ⟨_,[],hs.done,rfl,congrArg (Value.int .i64) (by unfold cE;rw [if_neg oM,if_neg oM])⟩
theorem pR {G:Ghost} {v:Value} {l:List Int} (hn:l.length≤12):Ai prog 62 [v] G [.row 3 1 v l.length (l.map (.int .i64))] fun _ _ H'=>∃ l',l'.Perm l∧Srt Wn l'∧H'=[.row 3 1 v l'.length (l'.map (.int .i64))]:=by
  intro w hs
  rcases aT hs with ⟨rfl,h0,hx⟩ | ⟨b,cap,rfl,_⟩
  · obtain rfl:=List.eq_nil_of_length_eq_zero h0
    exact (srtn_ok.mono fun r G' H' _ h=>⟨[],List.Perm.refl _,List.Pairwise.nil,h⟩) w hs
  · exact ((srti_ok (bq:=b) (cq:=cap) rfl hn).mono fun r G' H' _ ⟨l',h1,h2,h3⟩=>⟨l',h1,h2,by rw [h1.length_eq];exact h3⟩) w hs
theorem cmpg_ok {G:Ghost} {v:Value} {l:List Int} (hn:l.length≤12):Ai prog 63 [v] G [.row 3 1 v l.length (l.map (.int .i64))] fun r _ H'=>H'=[.row 3 1 r (Gi l).length ((Gi l).map (.int .i64))]:=by
  intro w hs
  rcases aT hs with ⟨rfl,h0,hx⟩ | ⟨b,cap,rfl,hc⟩
  · obtain rfl:=List.eq_nil_of_length_eq_zero h0
    exact (cmpn_ok.mono fun r G' H' _ ⟨h1,h2⟩=>by rw [h1];exact h2) w hs
  · exact ((cmpi_ok (bq:=b) (cq:=cap) rfl hn hc).mono fun r G' H' _ ⟨k,h1,h2,h3⟩=>by rw [h2,← h1];exact h3) w hs
def kW (r:List Int):List (Int×Int):=r.zip r.tail
def fF (f:Cg):List (Int×Int):=f.routes.flatMap kW
def Wa (f:Cg):List Int:=(fF f).map fun e=>(Db e f.edges:Int)
def Ja (f:Cg) (u:List Int):Prop:=u.Pairwise (fun a b=>a<b)∧∀ x,x∈u↔x∈Wa f
theorem fG (r:List Int):(kW r).length=r.length-1:=by unfold kW;rw [List.length_zip,List.length_tail];omega
theorem lnk_get {r:List Int} {j:Nat} (h1:1≤j) (h:j<r.length):(kW r).drop (j-1)=(r[j-1]'oM,r[j])::(kW r).drop j:=by
  rw [List.drop_eq_getElem_cons (by rw [fG];omega)]
  congr 1
  · unfold kW
    rw [List.getElem_zip,List.getElem_tail]
    congr 2;omega
  · congr 1;omega
theorem Vj {es:List (Int×Int)}:∀ (l pre:List Int),Ev es pre l=true→(∀ e∈kW l,e∈es)∧(∀ x l',l=x::l'→Sy es pre.getLast? x=true)
  | [],_,_=>⟨by simp [kW],by intro x l' h;cases h⟩
  | x::l,pre,h=>by
    rw [Ev] at h
    simp only [Bool.and_eq_true] at h
    obtain ⟨ih1,ih2⟩:=Vj l (pre++[x]) h.2.2
    refine ⟨?_,fun y l' e=>by injection e with e1 e2;subst e1;exact h.2.1⟩
    intro e he
    cases l with
    | nil=>simp [kW] at he
    | cons y l =>
      rw [show kW (x::y::l)=(x,y)::kW (y::l) from rfl] at he
      rcases List.mem_cons.1 he with rfl | he
      · have:=ih2 y l rfl
        rw [List.getLast?_concat] at this
        exact of_decide_eq_true (show decide ((x,y)∈es)=true from this)
      · exact ih1 e he
theorem jO {f:Cg} (h:f.routes.all (Gh f.edges)=true) {k:Nat} (hk:k<f.routes.length):∀ e∈kW f.routes[k],e∈f.edges:=by
  have h1:=List.all_eq_true.1 h _ (List.getElem_mem hk)
  unfold Gh at h1
  simp only [Bool.and_eq_true] at h1
  exact (Vj _ _ h1.2).1
theorem ltI_tot:∀ a b:Int,Wn a b=false→Wn b a=false→a=b:=fun a b h1 h2=>by simp only [Wn,decide_eq_false_iff_not] at *;omega
theorem used_of {f:Cg} {l':List Int} (h1:l'.Perm (Wa f)) (h2:Srt Wn l'):Ja f (Gi l') :=
  ⟨(Vg ltI_tot ordI _ _ rfl h2).imp fun h=>of_decide_eq_true h,fun x=>by rw [Ym];exact h1.mem_iff⟩
section
variable {x:Cx} {E:Env} {d:Option Tmp} {ty:TypeId} {pos:String} {aft:Array Edge} {g:Option (Nat×Bool)} {c:Ctx} {G:Ghost} {H:List Res}
theorem mV {α:Type} [DecidableEq α] {enc:α→Value} {K:Value→Prop} {t kt et:TypeId} {m kx:Operand} {b clk:Nat} {ks:List α} {a:α} {z:Value} (i:Nat) (hi:H[i]?=some (.obj b (.map (Fi enc ks).toArray clk))) (hu:x.P.underlying t=some (.map kt et)) (hk:Ii x.P kt enc) (hz:∀ w,(zeroValue et).run x.P w=.ok z w) (hnd:ks.Nodup)
    (h1:ev E m=some (.map (some b))) (h2:ev E kx=some (enc a)) (ha:a∈ks) (kk:K (Vi (Db a ks:Int))):Y x (St c G H) ⟨d,.lookup t m kx false,ty,pos,aft,g⟩ E K:=by
  rcases hk.has a ks hnd with ⟨h3,h4⟩ | ⟨h3,j,h4⟩
  · exact absurd (Ga.2 ha) h3
  · refine Dh (v:=Vi (Db a ks:Int)) (fun a' ha w hw=>?_) kk
    have hb:w.heap[b]?=some (.map (Fi enc ks).toArray clk):=hw.hold _ (List.mem_of_getElem? hi)
    simp only [execOp,ha.ev h1,ha.ev h2]
    simp [Instr.lookup,run_underlying hu,MapKept.run_getObj_map hb,hk.check,h4,Result.andThen]
end
theorem pS {G:Ghost} {Ap An Ae Ar:Option Addr} {cp cn ce cr:Nat} {f:Cg} (hf:Ho G Ap An Ae Ar cp cn ce cr f) (hz:sU f) (hP:∀ p∈f.progs,OkP p) (hT:Tab G) :
  Ai prog 60 [(.agg (fC Ap An Ae Ar cp cn ce cr f).toArray)] G [] fun r _ H'=>H'=[]∧r=Vi (Dm f):=by
 show Ai _ _ [.agg #[.slice Ap f.progs.length cp,.slice An f.nodes.length cn,.slice Ae f.edges.length ce,.slice Ar f.routes.length cr]] _ _ _
 refine Ai.of_T [(0,_)] func60 rfl ntmps60 sM rfl fun w0 hs=>?_
 have hf0:=hf
 have hT0:=hT
 refine Wt 2 [] hs rfl<|O_s (Sb hs rfl fun b1 _ hs=>Wp 5 [0,0] hs rfl ?_)
 cases hd7:decide (Dm f=0)
 ·
  refine O_s (Sc (fchk_F hf hz hP hT (of_decide_eq_false hd7)) hs rfl fun v1 G' H' _ hR hG7 hs=>?_)
  obtain ⟨rfl,rfl⟩:=hR
  replace hs:=hs.n rfl
  refine Wp 11 [0,0] hs rfl<|Ah<|Zz results60 rfl ?_
  exact ⟨_,[],hs.done,rfl,rfl⟩
 refine O_s (Sc (yL hf hz hP hT (of_decide_eq_true hd7)) hs rfl fun v2 G' H' _ hR hG7 hs=>?_)
 obtain ⟨bm,rfl,rfl⟩:=hR
 replace hs:=hs.n rfl
 refine Wp 11 [0,0] hs rfl<|Ah<|Zz results60 rfl ?_
 exact ⟨_,[],hs.done,rfl,by rw [of_decide_eq_true hd7]<;>rfl⟩
theorem fH {G:Ghost} {Ap An Ae Ar:Option Addr} {cp cn ce cr:Nat} {f:Cg} (hf:Ho G Ap An Ae Ar cp cn ce cr f) (hz:sU f) (hP:∀ p∈f.progs,OkP p) (hT:Tab G) (hC:Dm f=0) (h12:(fF f).length≤12) :
  Ai prog 40 [(.agg (fC Ap An Ae Ar cp cn ce cr f).toArray)] G [] fun r G' H'=>H'=[]∧∃ v u,r=.tuple #[v,Vi 0]∧Ja f u∧Bt G' v u∧u.length≤12:=by
 obtain ⟨hc0,hc1,hcn,hce,hcr⟩:=Qw hC
 have h12u:(Wa f).length≤12:=by unfold Wa;rw [List.length_map];exact h12
 show Ai _ _ [.agg #[.slice Ap f.progs.length cp,.slice An f.nodes.length cn,.slice Ae f.edges.length ce,.slice Ar f.routes.length cr]] _ _ _
 refine Ai.of_T [(0,_)] func40 rfl ntmps40 sM rfl fun w0 hs=>?_
 have hf0:=hf
 have hT0:=hT
 refine Wt 2 [] hs rfl<|O_s (Sb hs rfl fun b1 _ hs=>Wp 6 [0,0] hs rfl<|O_s (Sc (yL hf hz hP hT hC) hs rfl fun v1 G' H' _ hR hG12 hs=>?_))
 obtain ⟨bm,rfl,rfl⟩:=hR
 replace hs:=hs.n rfl
 replace hf:=hf.mono hG12
 replace hT:=hT.mono hG12
 refine Wp 26 [0,0,0,3,1,0] hs rfl ?_
 have hs:=hs.nilRow 3 1
 have hs:=hs.f2.f2.f2
 refine Zl [4,6,19,20,21] (fun m E w=>∃ (k:Nat) (us:List Int) (v6:Value) (G2:Ghost),k≤f.routes.length∧Wa f=us++((f.routes.drop k).flatMap kW).map (fun e=>(Db e f.edges:Int))∧m=f.routes.length-k∧E=⟨[],[(4,.map (some bm)),(6,v6),(19,.slice Ar f.routes.length cr),(20,Vi ((f.routes.length:Nat):Int)),(21,Vi (k:Int))]⟩∧St ⟨w0,G,Bl []⟩ G2 [.row 3 1 v6 us.length (us.map (.int .i64)),.obj bm (.map (Fi eK f.edges).toArray f.edges.length),.blk b1 43 [.slice Ap f.progs.length cp,.slice An f.nodes.length cn,.slice Ae f.edges.length ce,.slice Ar f.routes.length cr]] w) rfl (⟨0,[],_,_,by omega,by unfold Wa fF;simp,rfl,rfl,hs⟩) fun m E w hI=>?_
 obtain ⟨k,us,v6,G2,hk,hus,rfl,rfl,hs⟩:=hI
 have hf:=hf0.mono hs.le
 have hT:=hT0.mono hs.le
 refine Wt 2 [] hs rfl<|Zy hs (Yc rfl (fun h22=>?_) fun h22=>?_)
 ·
  refine Wp 8 [0] hs rfl<|Zy hs (Bp hf.r k underlying41 sizeOf33 rfl rfl rfl oM fun p23 c23 hp23 hc23 hR23=>?_)
  obtain ⟨u23,rfl,hv23⟩:=hR23
  obtain ⟨Ar8,cr8,rfl,_⟩:=id hv23
  have hrl:=hz.r _ (List.getElem_mem (show k<f.routes.length by omega))
  refine Zy hs (Yg rfl (hp23 0 (.slice Ar8 f.routes[k].length cr8) rfl)<|Wp 6 [0,0] hs rfl ?_)
  have hs:=hs.f2.f2.f2
  refine Zl [4,6,8,9,19,20,21] (fun m E w=>∃ (j:Nat) (us:List Int) (v6:Value) (G2:Ghost),1≤j∧j≤f.routes[k].length+1∧Wa f=us++((kW f.routes[k]).drop (j-1)++(f.routes.drop (k+1)).flatMap kW).map (fun e=>(Db e f.edges:Int))∧Bt G2 (.slice Ar8 f.routes[k].length cr8) f.routes[k]∧m=f.routes[k].length-j∧E=⟨[],[(4,.map (some bm)),(6,v6),(8,.slice Ar8 f.routes[k].length cr8),(9,Vi (j:Int)),(19,.slice Ar f.routes.length cr),(20,Vi ((f.routes.length:Nat):Int)),(21,Vi (k:Int))]⟩∧St ⟨w0,G,Bl []⟩ G2 [.row 3 1 v6 us.length (us.map (.int .i64)),.obj bm (.map (Fi eK f.edges).toArray f.edges.length),.blk b1 43 [.slice Ap f.progs.length cp,.slice An f.nodes.length cn,.slice Ae f.edges.length ce,.slice Ar f.routes.length cr]] w) rfl (⟨1,us,_,_,by omega,by omega,by rw [hus,List.drop_eq_getElem_cons oM];rfl,hv23,rfl,rfl,hs⟩) fun m E w hI=>?_
  obtain ⟨j,us,v6,G2,hj1,hj2,hus,hv23,rfl,rfl,hs⟩:=hI
  have hf:=hf0.mono hs.le
  have hT:=hT0.mono hs.le
  refine Wt 6 [] hs rfl<|Zy hs (Yc rfl (fun h28=>?_) fun h28=>?_)
  ·
   refine Wp 3 [0] hs rfl ?_
   have hlk:=lnk_get (r:=f.routes[k]'oM) hj1 oM
   have hin:((f.routes[k]'oM)[j-1]'oM,(f.routes[k]'oM)[j]'oM)∈f.edges:=jO hcr (k:=k) oM _ (List.mem_of_mem_drop (i:=j-1) (by rw [hlk];exact List.mem_cons_self))
   have husl:us.length+1≤12:=by have h:=congrArg List.length hus;rw [hlk] at h;simp at h;omega
   refine Wu 2 [] hs rfl<|Bb [0,1,2,3,4,5,6,7,8,9,10,11,12,13] hs kR ?_
   replace hs:=hs.drew
   refine Xr [0,1,2,3] [] hs rfl<|Xt 4 hs rfl (Fp (c:=((j-1:Nat):Int)) rfl rfl oM oM<|Xt 5 hs rfl (Dd hv23 (j-1) underlying33 sizeOf3 rfl rfl rfl oM fun p36 hp36 =>Xt 6 hs rfl (Yg rfl (hp36)<|Xr [7,8] [] hs rfl<|Xt 9 hs rfl (Dd hv23 j underlying33 sizeOf3 rfl rfl rfl oM fun p40 hp40 =>Xt 10 hs rfl (Yg rfl (hp40)<|Xt 11 hs rfl (Ct underlying70 sizeOf3 zeroValue70 rfl rfl (cs:=[_,_]) rfl<|Xt 12 hs rfl (mV (a:=((f.routes[k][j-1]'oM),(f.routes[k][j]'oM))) 1 rfl underlying113 keyE zeroValue3 (Tc hce) rfl rfl hin ?_)))))))
   have hle:=hs.le
   refine Xo 13 rfl (Bw hs underlying33 sizeOf3 zeroValue3 rfl rfl dC dC rfl (cs:=[_]) rfl rfl fun v2 _ hs _=>?_)
   obtain ⟨_,hG44,hl44,hs⟩:=hs.fixRow noM
   replace hv23:=hv23.mono hG44
   refine Am hs hle hG44 (Df _)<|Xa 14 rfl (Bf hs underlying33 Ko rfl dC rfl rfl (hl44) (Fh rfl) oM Lk fun v3 _ hs =>Xa 15 rfl (S_y hs rfl (Yq rfl<|Xe (Zk [4,6,8,9,19,20,21] rfl<|Wu 2 [] hs rfl<|Zy hs (Ya (s:=((j+1:Nat):Int)) rfl<|Wp 1 [] hs rfl ?_)))))
   have hs:=hs.f2.f2.f2
   refine Zx [4,6,8,9,19,20,21] rfl ⟨j+1,us++[(Db ((f.routes[k]'oM)[j-1]'oM,(f.routes[k]'oM)[j]'oM) f.edges:Int)],_,_,by omega,by omega,by rw [hus,hlk];simp,hv23,rfl,rfl,Bz hs sM⟩
  refine Wp 3 [0] hs rfl ?_
  refine Zr<|Zy hs (Ya (s:=((k+1:Nat):Int)) rfl<|Wp 1 [] hs rfl ?_)
  have hs:=hs.f2.f2.f2
  refine Zx [4,6,19,20,21] rfl ⟨k+1,us,_,_,by omega,by rw [hus,List.drop_eq_nil_of_le (by rw [fG];omega),List.nil_append],rfl,rfl,hs⟩
 refine Wp 4 [0] hs rfl ?_
 obtain rfl:k=f.routes.length:=by omega
 rw [List.drop_length] at hus
 simp only [List.flatMap_nil,List.map_nil,List.append_nil] at hus
 refine Wu 3 [] hs rfl<|O_s (Sc (pR (by rw [← hus];exact h12u)) hs rfl fun v4 G' H' _ hR hG48 hs=>?_)
 obtain ⟨l',hpm,hsl,rfl⟩:=hR
 replace hs:=hs.n rfl
 refine Wp 4 [0] hs rfl<|O_s (Sc (cmpg_ok (by rw [hpm.length_eq,← hus];exact h12u)) hs rfl fun v5 G' H' _ hR hG50 hs=>?_)
 obtain rfl:=hR
 replace hs:=hs.n rfl
 refine Wp 3 [0] hs rfl<|Ah ?_
 obtain ⟨_,hG_hfu,hfu,hs⟩:=hs.fixRow noM
 refine Bi (vs:=[_,_]) results40 rfl ⟨rfl,rfl,trivial⟩ ?_
 try dsimp only [tup]
 exact ⟨_,[],hs.done,rfl,_,Gi l',rfl,used_of (by rw [hus];exact hpm) hsl,hfu,Nat.le_trans (uI l').length_le (by rw [hpm.length_eq,← hus];exact h12u)⟩
theorem dU {n:Int}:∀ (l s:List (Int×Int)),Hp n s l=true→∀ e∈l,(0≤e.1∧e.1<n)∧(0≤e.2∧e.2<n)∧¬ e.1=e.2
  | [],_,_,_,h=>by cases h
  | a::l,s,h,e,he=>by
    rw [Hp] at h
    simp only [Bool.and_eq_true,Bool.not_eq_true',decide_eq_false_iff_not] at h
    rcases List.mem_cons.1 he with rfl | he
    · exact ⟨Iv.1 h.2.1,Iv.1 h.2.2.1,h.2.2.2.1⟩
    · exact dU l _ h.2.2.2.2 e he
theorem yP {n:Int} {l:List (Int×Int)} (h:Gm n l=true) {e:Int×Int} (he:e∈l):(0≤e.1∧e.1<n)∧(0≤e.2∧e.2<n)∧¬ e.1=e.2:=dU l [] h e he
theorem rawL_in {f:Cg} (h:f.routes.all (Gh f.edges)=true) {e:Int×Int} (he:e∈fF f):e∈f.edges:=by
  obtain ⟨r,hr,he⟩:=List.mem_flatMap.1 he
  obtain ⟨k,hk,rfl⟩:=List.getElem_of_mem hr
  exact jO h hk e he
theorem used_at {f:Cg} {u:List Int} (hu:Ja f u) (h:f.routes.all (Gh f.edges)=true) {x:Int} (hx:x∈u):∃ i:Nat,∃ hi:i<f.edges.length,x=(i:Int)∧f.edges[i]∈fF f:=by
  obtain ⟨e,he,rfl⟩:=List.mem_map.1 ((hu.2 x).1 hx)
  have h1:=Ga.2 (rawL_in h he)
  exact ⟨Db e f.edges,h1,rfl,by rw [Ke h1];exact he⟩
theorem prL_cs (q:List (Int×Int)):kV q=(q.map prC).flatten:=by unfold kV;rw [List.flatMap_def]
theorem fI {G:Ghost} {v:Value} {q:List (Int×Int)} (h:Sl G v 2 q.length (kV q)):kT G v q:=by
  refine ⟨q.map prC,by rw [← prL_cs];exact h,?_,by intro c hc;obtain ⟨e,_,rfl⟩:=List.mem_map.1 hc;rfl⟩
  clear h
  induction q with
  | nil=>trivial
  | cons a q ih=>exact ⟨rfl,ih⟩
theorem PL102:places prog 102=some [(0,1),(1,1)]:=by kernel_rfl
theorem Fw:places prog 137=some [(0,1),(1,1),(2,1),(3,1),(4,1),(5,1),(6,1),(7,1),(8,1),(9,3),(12,4),(16,5),(21,1),(22,1),(23,7),(30,1),(31,1),(32,1)]:=by kernel_rfl
theorem PL172:places prog 172=some [(0,1),(1,4),(5,1),(6,1),(7,1),(8,1)]:=by kernel_rfl
theorem jP:TI prog 137 (.agg #[Vi 0,Vi 0,Vi 0,Vi 0,Vi 0,Vi 0,Vi 0,Vn,Vf,Vi 0,Vn,Vn,.int .u64 0,.int .u64 0,.int .u64 0,.int .u64 0,Vi 0,Vi 0,Vi 0,Vi 0,Vf,Vn,Vn,Vi 0,Vf,Vi 0,Vi 0,Vi 0,Vi 0,Vn,.string ByteArray.empty,Vi 0,Vi 0]) 33 368:=TI.of kR
theorem Wq {G:Ghost} {c:List Nat} {x:UInt8} {z:Int} (hc:c.length=4) (hz:z=(x.toNat:Int)) :
  Ai prog 101 [Gr c,Vi z] G [] fun r _ H'=>H'=[]∧r=Gr (Ij c x):=by
 subst hz
 have hx:=x.toNat_lt
 have hcell:(c.map Af)[x.toNat / 64]?=some (Af (c.getD (x.toNat / 64) 0)):=by rw [List.getElem?_map,List.getElem?_eq_getElem oM,List.getD_eq_getElem?_getD,List.getElem?_eq_getElem oM];rfl
 have hal:(Ij c x).length=4:=by unfold Ij;rw [List.length_set];exact hc
 refine Ai.of_T [(0,_),(1,_)] func101 rfl ntmps101 sM rfl fun w0 hs =>Wt 2 [] hs rfl<|O_s (Eb hs rfl (cs:=(List.map Af c)) rfl fun b2 _ hs =>O_s (Bd hs zeroValue127 (cs:=(List.map Af [0,0,0,0])) rfl fun b4 _ hs =>Wp 2 [0] hs rfl<|Bb [0,1,2,3,4,5,6,7,8,9,10] hs kR ?_))
 replace hs:=hs.drew
 refine Xr [0] [] hs rfl<|Xt 1 hs rfl (Ns (c:=((x.toNat / 64:Nat):Int)) rfl rfl oM oM oM<|Xr [2] [] hs rfl<|Xt 3 hs rfl (Ns (c:=((x.toNat / 64:Nat):Int)) rfl rfl oM oM oM<|Xt 4 hs rfl (Br (x.toNat / 64) underlying127 sizeOf125 rfl rfl rfl oM<|Xt 5 hs rfl (Dc 1 isAgg125 rfl rfl hcell<|Xr [6] [] hs rfl<|Xt 7 hs rfl (Es (c:=((x.toNat % 64:Nat):Int)) rfl rfl oM oM oM<|Xt 8 hs rfl (eF (x.toNat % 64) oM rfl rfl<|Xt 9 hs rfl (Tx rfl rfl<|Xt 10 hs rfl (Br (x.toNat / 64) underlying127 sizeOf125 rfl rfl rfl oM<|Xn 11 rfl (Ht hs.f1 sizeOf125 rfl rfl rfl kY (cs':=(Ij c x).map Af) (by unfold Ij;rw [List.map_set]) fun _ hs =>Xe (Zk [2,4] rfl<|Wu 2 [] hs rfl<|Zy hs (Yk 0 rfl Kn<|O_n (Sw hs.f1 rfl (vs:=(List.map Af (Ij c x))) Kn Kn (Dj _) fun _ hs=>Wp 1 [0] hs rfl<|Ah ?_))))))))))))
 have hr:=hs
 refine Bi (vs:=[_]) results101 rfl ⟨Bk 0 hr isAgg127 sizeOf127 rfl (cs:=(List.map Af (Ij c x))) rfl Kn,trivial⟩ ?_
 try dsimp only [tup]
 exact ⟨_,[],hs.done,rfl,rfl⟩
theorem jQ {G:Ghost} :
  Ai prog 74 [Vi 1] G [] fun r _ H'=>H'=[]∧r=Gr rK:=by
 refine Ai.of_T [(0,_)] func74 rfl ntmps74 sM rfl fun w0 hs =>Wt 2 [] hs rfl<|O_s (Bd hs zeroValue127 (cs:=(List.map Af [0,0,0,0])) rfl fun b2 _ hs =>Wp 3 [0] hs rfl<|Zy hs (Ct underlying127 sizeOf125 zeroValue127 rfl rfl (cs:=[_,_,_,_]) rfl<|O_s (Bd hs zeroValue127 (cs:=(List.map Af [0,0,0,0])) rfl fun b3 _ hs =>O_n (Sw hs rfl (vs:=(List.map Af [0,0,0,0])) rfl rfl (Dj _) fun _ hs=>Wp 5 [0] hs rfl<|Zy hs (Es (c:=1) rfl rfl dC dC dC<|Wp 4 [0] hs rfl<|Zy hs (Yk 0 rfl rF<|O_s (Sc (Wq (x:=97) rfl rfl) hs rfl fun v1 G' H' _ hR hG9 hs=>?_)))))))
 obtain ⟨rfl,rfl⟩:=hR
 replace hs:=hs.n rfl
 refine O_n (Sw hs rfl (vs:=(List.map Af (Ij [0,0,0,0] 97))) rfl rfl (Dj _) fun _ hs=>Wp 5 [0] hs rfl<|Zy hs (Ns (c:=0) rfl rfl dC dC dC<|Zy hs (Es (c:=0) rfl rfl dC dC dC<|Wp 6 [0] hs rfl<|Zy hs (Yk 0 rfl rF<|O_n (Sw hs.f1 rfl (vs:=(List.map Af (Ij [0,0,0,0] 97))) rfl rfl (Dj _) fun _ hs=>Wp 1 [0] hs rfl<|Ah ?_)))))
 have hr:=hs
 refine Bi (vs:=[_]) results74 rfl ⟨Bk 0 hr isAgg127 sizeOf127 rfl (cs:=(List.map Af (Ij [0,0,0,0] 97))) rfl rfl,trivial⟩ ?_
 try dsimp only [tup]
 exact ⟨_,[],hs.done,rfl,rfl⟩
theorem aU {G:Ghost} :
  Ai prog 74 [Vi 2] G [] fun r _ H'=>H'=[]∧r=Gr clB:=by
 refine Ai.of_T [(0,_)] func74 rfl ntmps74 sM rfl fun w0 hs =>Wt 2 [] hs rfl<|O_s (Bd hs zeroValue127 (cs:=(List.map Af [0,0,0,0])) rfl fun b2 _ hs =>Wp 3 [0] hs rfl<|Zy hs (Ct underlying127 sizeOf125 zeroValue127 rfl rfl (cs:=[_,_,_,_]) rfl<|O_s (Bd hs zeroValue127 (cs:=(List.map Af [0,0,0,0])) rfl fun b3 _ hs =>O_n (Sw hs rfl (vs:=(List.map Af [0,0,0,0])) rfl rfl (Dj _) fun _ hs=>Wp 5 [0] hs rfl<|Zy hs (Es (c:=0) rfl rfl dC dC dC<|Wp 8 [0] hs rfl<|Zy hs (Ns (c:=1) rfl rfl dC dC dC<|Zy hs (Es (c:=1) rfl rfl dC dC dC<|Wp 4 [0] hs rfl<|Zy hs (Yk 0 rfl rF<|O_s (Sc (Wq (x:=98) rfl rfl) hs rfl fun v1 G' H' _ hR hG15 hs=>?_)))))))))
 obtain ⟨rfl,rfl⟩:=hR
 replace hs:=hs.n rfl
 refine O_n (Sw hs rfl (vs:=(List.map Af (Ij [0,0,0,0] 98))) rfl rfl (Dj _) fun _ hs=>Wp 3 [0] hs rfl<|Zy hs (Yk 0 rfl rF<|O_n (Sw hs.f1 rfl (vs:=(List.map Af (Ij [0,0,0,0] 98))) rfl rfl (Dj _) fun _ hs=>Wp 1 [0] hs rfl<|Ah ?_)))
 have hr:=hs
 refine Bi (vs:=[_]) results74 rfl ⟨Bk 0 hr isAgg127 sizeOf127 rfl (cs:=(List.map Af (Ij [0,0,0,0] 98))) rfl rfl,trivial⟩ ?_
 try dsimp only [tup]
 exact ⟨_,[],hs.done,rfl,rfl⟩
theorem yQ {G:Ghost} :
  Ai prog 74 [Vi 3] G [] fun r _ H'=>H'=[]∧r=Gr Pt:=by
 refine Ai.of_T [(0,_)] func74 rfl ntmps74 sM rfl fun w0 hs =>Wt 2 [] hs rfl<|O_s (Bd hs zeroValue127 (cs:=(List.map Af [0,0,0,0])) rfl fun b2 _ hs =>Wp 3 [0] hs rfl<|Zy hs (Ct underlying127 sizeOf125 zeroValue127 rfl rfl (cs:=[_,_,_,_]) rfl<|O_s (Bd hs zeroValue127 (cs:=(List.map Af [0,0,0,0])) rfl fun b3 _ hs =>O_n (Sw hs rfl (vs:=(List.map Af [0,0,0,0])) rfl rfl (Dj _) fun _ hs=>Wp 5 [0] hs rfl<|Zy hs (Es (c:=1) rfl rfl dC dC dC<|Wp 4 [0] hs rfl<|Zy hs (Yk 0 rfl rF<|O_s (Sc (Wq (x:=97) rfl rfl) hs rfl fun v1 G' H' _ hR hG9 hs=>?_)))))))
 obtain ⟨rfl,rfl⟩:=hR
 replace hs:=hs.n rfl
 refine O_n (Sw hs rfl (vs:=(List.map Af (Ij [0,0,0,0] 97))) rfl rfl (Dj _) fun _ hs=>Wp 5 [0] hs rfl<|Zy hs (Ns (c:=1) rfl rfl dC dC dC<|Zy hs (Es (c:=1) rfl rfl dC dC dC<|Wp 4 [0] hs rfl<|Zy hs (Yk 0 rfl rF<|O_s (Sc (Wq (x:=98) rfl rfl) hs rfl fun v2 G' H' _ hR hG15 hs=>?_)))))
 obtain ⟨rfl,rfl⟩:=hR
 replace hs:=hs.n rfl
 refine O_n (Sw hs rfl (vs:=(List.map Af (Ij (Ij [0,0,0,0] 97) 98))) rfl rfl (Dj _) fun _ hs=>Wp 3 [0] hs rfl<|Zy hs (Yk 0 rfl rF<|O_n (Sw hs.f1 rfl (vs:=(List.map Af (Ij (Ij [0,0,0,0] 97) 98))) rfl rfl (Dj _) fun _ hs=>Wp 1 [0] hs rfl<|Ah ?_)))
 have hr:=hs
 refine Bi (vs:=[_]) results74 rfl ⟨Bk 0 hr isAgg127 sizeOf127 rfl (cs:=(List.map Af (Ij (Ij [0,0,0,0] 97) 98))) rfl rfl,trivial⟩ ?_
 try dsimp only [tup]
 exact ⟨_,[],hs.done,rfl,rfl⟩
theorem yR {c:List Nat} (h:c.length=4):∃ a b d e,c=[a,b,d,e]∧Gr c=.agg #[Af a,Af b,Af d,Af e]:=by
  obtain ⟨a,b,d,e,rfl⟩:=Mo h
  exact ⟨a,b,d,e,rfl,rfl⟩
theorem noC_ok:Zj noC:=⟨rfl,by decide⟩
theorem clA_ok:Zj rK:=⟨by decide,by decide⟩
theorem fJ:Zj clB:=⟨by decide,by decide⟩
theorem clAB_ok:Zj Pt:=⟨by decide,by decide⟩
theorem Pm {G:Ghost} {c:List Nat} (hc:Zj c) :
  Ai prog 80 [Gr c,Vi 0] G [] fun r G' H'=>H'=[]∧Rx G' r (Ec c):=by
 obtain ⟨c0,c1,c2,c3,rfl,hcv⟩:=yR hc.1
 rw [hcv]
 refine Ai.of_T [(0,_),(1,_)] func80 rfl ntmps80 sM rfl fun w0 hs =>Wt 2 [] hs rfl<|O_s (Sb hs rfl fun b2 _ hs=>Wp 5 [0,0] hs rfl<|Zy hs (Ba zeroValue172 rfl PL172 rfl (cs:=[_,_,_,_,_,_,_,_,_]) rfl<|Wp 1 [] hs rfl<|Zy hs (Ba zeroValue172 rfl PL172 rfl (cs:=[_,_,_,_,_,_,_,_,_]) rfl<|O_s (Se hs zeroValue172 rfl fun v1 _ hs _=>?_))))
 obtain ⟨_,hG9,hl9,hs⟩:=hs.fixRow noM
 refine Wp 2 [0] hs rfl<|Ah<|Zz results80 rfl ?_
 exact ⟨_,[],hs.done,rfl,Be.ofSl (cs:=[oJ ⟨3,[c0,c1,c2,c3],0,0,0,0⟩,oJ ⟨8,noC,0,0,0,-1⟩]) hl9 rfl rfl ⟨⟨rfl,hc⟩,⟨rfl,noC_ok⟩,trivial⟩ Z12⟩
theorem Th {G:Ghost} :
  Ai prog 79 [] G [] fun r G' H'=>H'=[]∧Rx G' r (Ec Pt):=by
 refine Ai.of_T [] func79 rfl ntmps79 sM rfl fun w0 hs =>Wt 6 [0] hs rfl<|O_s (Sc (yQ) hs rfl fun v1 G' H' _ hR hG1 hs=>?_)
 obtain ⟨rfl,rfl⟩:=hR
 replace hs:=hs.n rfl
 refine O_s (Sc (Pm clAB_ok) hs rfl fun v2 G' H' _ hR hG2 hs=>?_)
 obtain ⟨rfl,h2⟩:=hR
 replace hs:=hs.n rfl
 refine Wp 2 [0] hs rfl<|Ah<|Zz results79 rfl ?_
 exact ⟨_,[],hs.done,rfl,h2⟩
theorem fK {G:Ghost} :
  Ai prog 77 [Vi 0] G [] fun r G' H'=>H'=[]∧Rx G' r (Ec rK):=by
 refine Ai.of_T [(0,_)] func77 rfl ntmps77 sM rfl fun w0 hs =>Wt 8 [0] hs rfl<|Zy hs (Es (c:=0) rfl rfl dC dC dC<|Wp 10 [0,0] hs rfl<|O_s (Sc (jQ) hs rfl fun v1 G' H' _ hR hG7 hs=>?_))
 obtain ⟨rfl,rfl⟩:=hR
 replace hs:=hs.n rfl
 refine O_s (Sc (Pm clA_ok) hs rfl fun v2 G' H' _ hR hG8 hs=>?_)
 obtain ⟨rfl,h8⟩:=hR
 replace hs:=hs.n rfl
 refine Wp 2 [0] hs rfl<|Ah<|Zz results77 rfl ?_
 exact ⟨_,[],hs.done,rfl,h8⟩
theorem rop2_ok {G:Ghost} :
  Ai prog 75 [Vi 2] G [] fun r G' H'=>H'=[]∧∃ A1 c1 A2 c2,r=.agg #[Vi 6,.slice A1 1 c1,.slice A2 1 c2]∧Da G' (.slice A1 1 c1) [97]∧Da G' (.slice A2 1 c2) [98]:=by
 refine Ai.of_T [(0,_)] func75 rfl ntmps75 sM rfl fun w0 hs =>Wt 2 [] hs rfl<|O_s (Sa hs zeroValue124 rfl fun b2 _ hs=>Wp 5 [0] hs rfl<|Zy hs (Es (c:=2) rfl rfl dC dC dC<|Wp 22 [0,0,0,0] hs rfl<|O_s (Se hs zeroValue5 rfl fun v1 _ hs _=>?_)))
 have hsN:=hs.fixRow noM
 clear hs
 obtain ⟨_,hG13,hl13,hs⟩:=hsN
 obtain ⟨A13,c13,rfl,_⟩:=id hl13
 refine O_s (Se hs zeroValue5 rfl fun v2 _ hs _=>?_)
 have hsN:=hs.fixRow noM
 clear hs
 obtain ⟨_,hG14,hl14,hs⟩:=hsN
 replace hl13:=hl13.mono hG14
 obtain ⟨A14,c14,rfl,_⟩:=id hl14
 refine Zy hs (Ba zeroValue124 rfl wN rfl (cs:=[_,_,_]) rfl<|O_n (Sg hs rfl (rfl) fun _ hs=>Wp 1 [0] hs rfl<|Ah<|Zz results75 (Rb 0 hs rfl rF) ?_))
 exact ⟨_,[],hs.done,rfl,_,_,_,_,rfl,hl13,hl14⟩
theorem rop3_ok {G:Ghost} :
  Ai prog 75 [Vi 3] G [] fun r G' H'=>H'=[]∧∃ A1 c1,r=.agg #[Vi 5,.slice A1 1 c1,Vn]∧Da G' (.slice A1 1 c1) [98]:=by
 refine Ai.of_T [(0,_)] func75 rfl ntmps75 sM rfl fun w0 hs =>Wt 2 [] hs rfl<|O_s (Sa hs zeroValue124 rfl fun b2 _ hs=>Wp 5 [0] hs rfl<|Zy hs (Es (c:=3) rfl rfl dC dC dC<|Wp 28 [0,0,0,0,0] hs rfl<|O_s (Se hs zeroValue5 rfl fun v1 _ hs _=>?_)))
 have hsN:=hs.fixRow noM
 clear hs
 obtain ⟨_,hG18,hl18,hs⟩:=hsN
 obtain ⟨A18,c18,rfl,_⟩:=id hl18
 refine Zy hs (Ba zeroValue124 rfl wN rfl (cs:=[_,_,_]) rfl<|O_n (Sg hs rfl (rfl) fun _ hs=>Wp 1 [0] hs rfl<|Ah<|Zz results75 (Rb 0 hs rfl rF) ?_))
 exact ⟨_,[],hs.done,rfl,_,_,rfl,hl18⟩
theorem jR {G:Ghost} {x:Int} :
  Ai prog 102 [Vi 0,Vi x] G [] fun r _ H'=>H'=[]∧r=.agg #[Vi 13,Vi x,Vi 0,Vi 0,Vi 0,Vi 0,Vi 0,Vn,Vf,Vi 0,Vn,Vn,Af 0,Af 0,Af 0,Af 0,Vi 0,Vi 0,Vi 0,Vi 0,Vf,Vn,Vn,Vi 0,Vf,Vi 0,Vi 0,Vi 0,Vi 0,Vn,.string ⟨#[120]⟩,Vi (-1),Vi (-1)]:=by
 refine Ai.of_T [(0,_),(1,_)] func102 rfl ntmps102 sM rfl fun w0 hs =>Wt 2 [] hs rfl<|O_s (Sa hs zeroValue137 rfl fun b4 _ hs=>Wp 3 [0] hs rfl<|O_s (Se hs zeroValue9 rfl fun v1 _ hs _=>?_))
 obtain ⟨_,hG5,hl5,hs⟩:=hs.fixRow noM
 refine Wp 1 [] hs rfl<|Zy hs (Es (c:=0) rfl rfl dC dC dC<|Zy hs (Hu 0 underlying150 sizeOf9 hl5 rfl rfl rfl rfl fun p8 hp8 =>Zy hs (Yg rfl (hp8)<|Wp 1 [] hs rfl<|Zy hs (Ba zeroValue137 rfl Fw rfl (cs:=[_,_,_,_,_,_,_,_,_,_,_,_,_,_,_,_,_,_,_,_,_,_,_,_,_,_,_,_,_,_,_,_,_]) rfl<|O_n (Sg hs rfl (rfl) fun _ hs=>Wp 1 [0] hs rfl<|Ah<|Zz results102 (Rb 0 hs rfl rF) ?_)))))
 exact ⟨_,[],hs.done,rfl,rfl⟩
theorem yS {G:Ghost} {x:Int} :
  Ai prog 102 [Vi 1,Vi x] G [] fun r _ H'=>H'=[]∧r=.agg #[Vi 13,Vi x,Vi 0,Vi 0,Vi 0,Vi 0,Vi 0,Vn,Vf,Vi 0,Vn,Vn,Af 0,Af 0,Af 0,Af 0,Vi 0,Vi 0,Vi 0,Vi 0,Vf,Vn,Vn,Vi 0,Vf,Vi 0,Vi 0,Vi 0,Vi 0,Vn,.string ⟨#[121]⟩,Vi (-1),Vi (-1)]:=by
 refine Ai.of_T [(0,_),(1,_)] func102 rfl ntmps102 sM rfl fun w0 hs =>Wt 2 [] hs rfl<|O_s (Sa hs zeroValue137 rfl fun b4 _ hs=>Wp 3 [0] hs rfl<|O_s (Se hs zeroValue9 rfl fun v1 _ hs _=>?_))
 obtain ⟨_,hG5,hl5,hs⟩:=hs.fixRow noM
 refine Wp 1 [] hs rfl<|Zy hs (Es (c:=1) rfl rfl dC dC dC<|Zy hs (Hu 1 underlying150 sizeOf9 hl5 rfl rfl rfl rfl fun p8 hp8 =>Zy hs (Yg rfl (hp8)<|Wp 1 [] hs rfl<|Zy hs (Ba zeroValue137 rfl Fw rfl (cs:=[_,_,_,_,_,_,_,_,_,_,_,_,_,_,_,_,_,_,_,_,_,_,_,_,_,_,_,_,_,_,_,_,_]) rfl<|O_n (Sg hs rfl (rfl) fun _ hs=>Wp 1 [0] hs rfl<|Ah<|Zz results102 (Rb 0 hs rfl rF) ?_)))))
 exact ⟨_,[],hs.done,rfl,rfl⟩
theorem rrej_ok {G:Ghost} :
  Ai prog 100 [Vi 0] G [] fun r _ H'=>H'=[]∧r=.agg #[Vi 14,Vi 0,Vi 0,Vi 0,Vi 0,Vi 1,Vi 0,Vn,Vf,Vi 0,Vn,Vn,Af 0,Af 0,Af 0,Af 0,Vi 0,Vi 0,Vi 0,Vi 0,Vf,Vn,Vn,Vi 0,Vf,Vi 0,Vi 0,Vi 0,Vi 0,Vn,.string ⟨[].toArray⟩,Vi (-1),Vi (-1)]:=by
 refine Ai.of_T [(0,_)] func100 rfl ntmps100 sM rfl fun w0 hs =>Wt 2 [] hs rfl<|O_s (Sa hs zeroValue137 rfl fun b2 _ hs=>Wp 4 [0] hs rfl<|Zy hs (Es (c:=0) rfl rfl dC dC dC<|Zy hs (Ef (c:=1) rfl rfl dC dC<|Zy hs (Ba zeroValue137 rfl Fw rfl (cs:=[_,_,_,_,_,_,_,_,_,_,_,_,_,_,_,_,_,_,_,_,_,_,_,_,_,_,_,_,_,_,_,_,_]) rfl<|O_n (Sg hs rfl (rfl) fun _ hs=>Wp 1 [0] hs rfl<|Ah<|Zz results100 (Rb 0 hs rfl rF) ?_)))))
 exact ⟨_,[],hs.done,rfl,rfl⟩
theorem Jv {l:List Value} (h:l.all (·.oneCell')=true):∀ y∈l,y.oneCell'=true:=fun y hy=>List.all_eq_true.1 h y hy
theorem Cr.set {α β:Type} {R:α→β→Prop}:∀ {l:List α} {m:List β} {i:Nat} {a:α},Cr R l m→(h:i<m.length)→R a m[i]→Cr R (l.set i a) m
  | [],[],_,_,_,h,_=>absurd h (Nat.not_lt_zero _)
  | x::l,y::m,0,a,h,_,ha=>⟨ha,h.2⟩
  | x::l,y::m,i+1,a,h,hi,ha=>⟨h.1,Cr.set h.2 (by simpa using hi) (by simpa using ha)⟩
  | [],_::_,_,_,h,_,_=>h.elim
  | _::_,[],_,_,h,_,_=>h.elim
def Ou (G:Ghost) (vs:List Value) (l:List (List Int)):Prop:=Cr (fun v r=>Bt G v r) vs l
theorem Ou.mono {G G':Ghost} (h:G.le G') {vs:List Value} {l:List (List Int)} (hl:Ou G vs l):Ou G' vs l:=Cr.mono (fun _ _ hn=>Bt.mono h hn) hl
theorem Ou.snoc {G:Ghost} {vs:List Value} {l:List (List Int)} {v:Value} {r:List Int} (hl:Ou G vs l) (h:Bt G v r):Ou G (vs++[v]) (l++[r]):=Cr.snoc hl h
theorem Ou.fin {G:Ghost} {v:Value} {n:Nat} {vs:List Value} {l:List (List Int)} (h:Sl G v 1 n vs) (hn:n=l.length) (hl:Ou G vs l):Rts G v l:=by
  refine Be.ofSl (cs:=vs.map fun u=>[u]) h ?_ hn ?_ (by intro c hc;obtain ⟨u,_,rfl⟩:=List.mem_map.1 hc;rfl)
  · clear h hn hl
    induction vs with
    | nil=>rfl
    | cons u vs ih=>rw [List.map_cons,List.flatten_cons,← ih];rfl
  · clear h hn
    induction vs generalizing l with
    | nil=>cases l with
      | nil=>trivial
      | cons _ _=>exact hl.elim
    | cons u vs ih=>cases l with
      | nil=>exact hl.elim
      | cons r l=>exact ⟨⟨u,rfl,hl.1⟩,ih hl.2⟩
def Ha (G:Ghost) (css:List (List Value)) (l:List Bm):Prop:=Cr (Gw G) css l∧∀ c∈css,c.length=33
theorem Ha.mono {G G':Ghost} (h:G.le G') {css:List (List Value)} {l:List Bm} (hl:Ha G css l):Ha G' css l:=⟨Cr.mono (fun _ _ h2=>Gw.mono h h2) hl.1,hl.2⟩
theorem Ha.snoc {G:Ghost} {css:List (List Value)} {l:List Bm} {c:List Value} {a:Bm} (hl:Ha G css l) (h:Gw G c a) (hk:c.length=33):Ha G (css++[c]) (l++[a]) :=
  ⟨Cr.snoc hl.1 h,fun d hd=>by rcases List.mem_append.1 hd with hd | hd;exact hl.2 d hd;rw [List.mem_singleton.1 hd];exact hk⟩
theorem Ha.fin {G:Ghost} {css:List (List Value)} {l:List Bm} {v:Value} {n:Nat} (hl:Ha G css l) (h:Sl G v 33 n css.flatten) (hn:n=l.length):eX G v l:=Be.ofSl h rfl hn hl.1 hl.2
theorem Ha.len {G:Ghost} {css:List (List Value)} {l:List Bm} (hl:Ha G css l):css.length=l.length:=Cr.length hl.1
def aV (G:Ghost) (css:List (List Value)) (l:List By):Prop:=Cr (pM G) css l∧∀ c∈css,c.length=2
theorem aV.mono {G G':Ghost} (h:G.le G') {css:List (List Value)} {l:List By} (hl:aV G css l):aV G' css l:=⟨Cr.mono (fun _ _ h2=>pM.mono h h2) hl.1,hl.2⟩
theorem aV.snoc {G:Ghost} {css:List (List Value)} {l:List By} {c:List Value} {a:By} (hl:aV G css l) (h:pM G c a) (hk:c.length=2):aV G (css++[c]) (l++[a]) :=
  ⟨Cr.snoc hl.1 h,fun d hd=>by rcases List.mem_append.1 hd with hd | hd;exact hl.2 d hd;rw [List.mem_singleton.1 hd];exact hk⟩
theorem aV.fin {G:Ghost} {css:List (List Value)} {l:List By} {v:Value} {n:Nat} (hl:aV G css l) (h:Sl G v 2 n css.flatten) (hn:n=l.length):sT G v l:=Be.ofSl h rfl hn hl.1 hl.2
theorem aV.len {G:Ghost} {css:List (List Value)} {l:List By} (hl:aV G css l):css.length=l.length:=Cr.length hl.1
def Wb (G:Ghost) (css:List (List Value)) (l:List Oq):Prop:=Cr (mQ G) css l∧∀ c∈css,c.length=4
theorem Wb.mono {G G':Ghost} (h:G.le G') {css:List (List Value)} {l:List Oq} (hl:Wb G css l):Wb G' css l:=⟨Cr.mono (fun _ _ h2=>mQ.mono h h2) hl.1,hl.2⟩
theorem Wb.snoc {G:Ghost} {css:List (List Value)} {l:List Oq} {c:List Value} {a:Oq} (hl:Wb G css l) (h:mQ G c a) (hk:c.length=4):Wb G (css++[c]) (l++[a]) :=
  ⟨Cr.snoc hl.1 h,fun d hd=>by rcases List.mem_append.1 hd with hd | hd;exact hl.2 d hd;rw [List.mem_singleton.1 hd];exact hk⟩
theorem Wb.fin {G:Ghost} {css:List (List Value)} {l:List Oq} {v:Value} {n:Nat} (hl:Wb G css l) (h:Sl G v 4 n css.flatten) (hn:n=l.length):yF G v l:=Be.ofSl h rfl hn hl.1 hl.2
theorem Wb.len {G:Ghost} {css:List (List Value)} {l:List Oq} (hl:Wb G css l):css.length=l.length:=Cr.length hl.1
def cF (G:Ghost) (css:List (List Value)) (l:List Kv):Prop:=Cr (Zp G) css l∧∀ c∈css,c.length=2
theorem cF.mono {G G':Ghost} (h:G.le G') {css:List (List Value)} {l:List Kv} (hl:cF G css l):cF G' css l:=⟨Cr.mono (fun _ _ h2=>Zp.mono h h2) hl.1,hl.2⟩
theorem cF.snoc {G:Ghost} {css:List (List Value)} {l:List Kv} {c:List Value} {a:Kv} (hl:cF G css l) (h:Zp G c a) (hk:c.length=2):cF G (css++[c]) (l++[a]) :=
  ⟨Cr.snoc hl.1 h,fun d hd=>by rcases List.mem_append.1 hd with hd | hd;exact hl.2 d hd;rw [List.mem_singleton.1 hd];exact hk⟩
theorem cF.fin {G:Ghost} {css:List (List Value)} {l:List Kv} {v:Value} {n:Nat} (hl:cF G css l) (h:Sl G v 2 n css.flatten) (hn:n=l.length):vG G v l:=Be.ofSl h rfl hn hl.1 hl.2
theorem cF.len {G:Ghost} {css:List (List Value)} {l:List Kv} (hl:cF G css l):css.length=l.length:=Cr.length hl.1
theorem _root_.Go.Ex.Ghost.le.mono {a b c:Ghost} (h:a.le b) (h2:b.le c):a.le c:=h.trans h2
theorem jS {k:Nat}:∀ {css:List (List Value)} {i:Nat} {c:List Value},(∀ c∈css,c.length=k)→css[i]?=some c→(css.flatten.drop (i*k)).take k=c
  | [],_,_,_,h=>by cases h
  | d::css,0,c,hk,h=>by
    injection h with h;subst h
    have:=hk d List.mem_cons_self
    rw [List.flatten_cons,Nat.zero_mul,List.drop_zero,List.take_left' this]
  | d::css,i+1,c,hk,h=>by
    have hd:=hk d List.mem_cons_self
    rw [List.flatten_cons,show (i+1)*k=d.length+i*k from by rw [hd,Nat.succ_mul];omega,List.drop_length_add_append]
    exact jS (fun z hz=>hk z (List.mem_cons_of_mem _ hz)) h
theorem Mb {k:Nat} {u:Value}:∀ {css:List (List Value)} {i j:Nat} {c:List Value},(∀ c∈css,c.length=k)→css[i]?=some c→j<k→css.flatten.set (i*k+j) u=(css.set i (c.set j u)).flatten
  | [],_,_,_,_,h,_=>by cases h
  | d::css,0,j,c,hk,h,hj=>by
    injection h with h;subst h
    have:=hk d List.mem_cons_self
    rw [List.flatten_cons,List.set_cons_zero,List.flatten_cons,Nat.zero_mul,Nat.zero_add,List.set_append_left _ _ oM]
  | d::css,i+1,j,c,hk,h,hj=>by
    have hd:=hk d List.mem_cons_self
    rw [List.flatten_cons,List.set_cons_succ,List.flatten_cons,show (i+1)*k+j=d.length+(i*k+j) from by rw [hd,Nat.succ_mul];omega,List.set_append_right _ _ (Nat.le_add_right _ _),Nat.add_sub_cancel_left,Mb (fun z hz=>hk z (List.mem_cons_of_mem _ hz)) h hj]
theorem jT {k:Nat} {css:List (List Value)} {i:Nat} {e:List Value} (hk:∀ c∈css,c.length=k) (he:e.length=k):∀ c∈css.set i e,c.length=k:=fun c hc=>by
  rcases List.mem_or_eq_of_mem_set hc with h | h
  · exact hk c h
  · rw [h];exact he
theorem jU {ds:List (List Value)} {i:Nat} {c e:List Value} {a b:Value} (hk:∀ c∈ds,c.length=33) (hd:ds[i]?=some c) (he:(c.set 31 a).set 32 b=e):(ds.flatten.set (i*33+31) a).set (i*33+32) b=(ds.set i e).flatten:=by
  have hi:=(List.getElem?_eq_some_iff.1 hd).1
  have hc:=hk c (List.mem_of_getElem? hd)
  rw [Mb hk hd dC,Mb (c:=c.set 31 a) (jT hk (by simpa using hc)) (List.getElem?_set_self hi) dC,List.set_set,he]
def aW (s:Bm):Bm:={ s with thn:=-1,els:=-1 }
theorem Cr.put {α β:Type} {R:α→β→Prop}:∀ {l:List α} {m:List β} {i:Nat} {a:α} {b:β},Cr R l m→R a b→Cr R (l.set i a) (m.set i b)
  | [],[],_,_,_,_,_=>trivial
  | x::l,y::m,0,a,b,h,ha=>⟨ha,h.2⟩
  | x::l,y::m,i+1,a,b,h,ha=>⟨h.1,Cr.put h.2 ha⟩
  | [],_::_,_,_,_,h,_=>h.elim
  | _::_,[],_,_,_,h,_=>h.elim
def jV (ss:List Bm) (i:Nat):List Bm:=(ss.take i).map aW++ss.drop i
theorem lnUp_at {ss:List Bm} {i:Nat} (h:i<ss.length):(jV ss i)[i]?=some ss[i]:=by
  unfold jV
  rw [List.getElem?_append_right (by rw [List.length_map,List.length_take];omega),List.length_map,List.length_take,Nat.min_eq_left oM,Nat.sub_self,List.getElem?_drop,Nat.add_zero,List.getElem?_eq_getElem h]
theorem sX {ss:List Bm} {i:Nat} (h:i<ss.length):jV ss (i+1)=(jV ss i).set i (aW ss[i]):=by
  unfold jV
  rw [Ed h,List.map_append,List.set_append_right _ _ (by rw [List.length_map,List.length_take];omega),List.length_map,List.length_take,Nat.min_eq_left oM,Nat.sub_self,List.drop_eq_getElem_cons h,List.set_cons_zero,List.append_assoc];rfl
theorem Ha.put {G:Ghost} {css:List (List Value)} {l:List Bm} {i:Nat} {c:List Value} {s:Bm} (h:Ha G css l) (hc:Gw G c s):Ha G (css.set i c) (l.set i s):=⟨Cr.put h.1 hc,jT h.2 hc.len⟩
theorem lnStep {G:Ghost} {ds:List (List Value)} {ss:List Bm} {i:Nat} {e:List Value} {sm:Bm} (hD:Ha G ds (jV ss i)) (hi:i<ss.length) (hsm:sm=ss[i]) (he:Gw G e (aW sm)):Ha G (ds.set i e) (jV ss (i+1)):=by
  rw [sX hi,← hsm];exact hD.put he
theorem Ha.at_ {G:Ghost} {css:List (List Value)} {l:List Bm} {i:Nat} {s:Bm} (h:Ha G css l) (hs:l[i]?=some s):∃ c,css[i]?=some c∧Gw G c s:=by
  obtain ⟨hi,rfl⟩:=List.getElem?_eq_some_iff.1 hs
  exact Cr.get i h.1 hi
theorem Ky {G:Ghost} {b n:Nat} {css:List (List Value)} {ss:List Bm} (hn:ss.length=n) (h1:1≤n) (h2:n≤100) (hA:Ha G css ss) :
  Ai prog 72 [(Vs b n n)] G [.row 137 33 (Vs b n n) n css.flatten] fun r G' H'=>∃ vs vb es u,r=.agg #[vs,vb]∧Ha G' es (ss.map aW)∧Cc G' u (List.range n)∧H'=[.row 137 33 vs n es.flatten,.row 33 1 vb 1 [u]]:=by
 refine Ai.of_T [(0,_)] func72 rfl ntmps72 sM rfl fun w0 hs=>?_
 have hA0:=hA
 have hM0:=hs.feetLt
 refine Wt 2 [] hs rfl<|O_s (Sa hs zeroValue102 rfl fun b2 _ hs=>Wp 3 [0] hs rfl<|O_s (Se hs zeroValue3 rfl fun v1 _ hs shl=>?_))
 obtain ⟨bl5,rfl⟩:=shl
 refine O_s (Se hs zeroValue33 rfl fun v2 _ hs shl=>?_)
 obtain ⟨bl6,rfl⟩:=shl
 refine Zy hs (Ba zeroValue102 rfl PL102 rfl (cs:=[_,_]) rfl<|O_s (Sa hs zeroValue102 rfl fun b3 _ hs=>O_n (Sg hs rfl (by simp only [List.all_cons,List.all_nil,hs.rowOne 1 rfl];rfl) fun _ hs=>Wp 6 [0,0] hs rfl ?_)))
 have hs:=hs.nilRow 137 33
 have hs:=hs.f4.f5.f3.f4.f5.f5
 refine Zl [0,2,3,4] (fun m E w=>∃ (i:Nat) (ds es:List (List Value)) (vs vb x:Value) (G2:Ghost),i≤n∧Ha G2 ds (jV ss i)∧Ha G2 es ((ss.take i).map aW)∧m=n-i∧E=⟨[],[(0,(Vs b n n)),(2,Vp b2),(3,Vp b3),(4,Vi (i:Int))]⟩∧St ⟨w0,G,Bl [.row 137 33 (Vs b n n) n css.flatten]⟩ G2 [.row 137 33 vs i es.flatten,.row 3 1 x i ((List.range i).map Co),.row 33 1 vb 1 [x],.blk b3 102 [vs,vb],.row 137 33 (Vs b n n) n ds.flatten,.blk b2 102 [Vn,Vn]] w) rfl (⟨0,css,[],_,_,_,_,by omega,hA,⟨trivial,by simp⟩,rfl,rfl,hs⟩) fun m E w hI=>?_
 obtain ⟨i,ds,es,vs,vb,x,G2,hi,hD,hE,rfl,rfl,hs⟩:=hI
 refine Wt 6 [] hs rfl<|Zy hs (Yc rfl (fun h11=>?_) fun h11=>?_)
 ·
  refine Wp 3 [0] hs rfl ?_
  obtain ⟨sm,hsm⟩:∃ z,z=ss[i]'oM:=⟨_,rfl⟩
  obtain ⟨c0,hdi,hsr⟩:=hD.at_ (lnUp_at (ss:=ss) (i:=i) oM)
  rw [← hsm] at hsr
  obtain ⟨wb,wo,wn,wp,wy,wr,rfl,⟨hb8,nb⟩,⟨ho8,no⟩,⟨hn8,nn⟩,⟨hp8,np⟩,⟨hy8,ny⟩,⟨hr8,nr⟩⟩:=hsr
  obtain ⟨Ab1,cb1,rfl,_⟩:=id hb8
  obtain ⟨Ao1,co1,rfl,_⟩:=id ho8
  obtain ⟨An1,cn1,rfl,_⟩:=id hn8
  obtain ⟨Ap1,cp1,rfl⟩:=Be.slice hp8
  obtain ⟨Ay1,cy1,rfl,_⟩:=id hy8
  obtain ⟨Ar1,cr1,rfl⟩:=Be.slice hr8
  refine Wu 6 [] hs rfl<|Zy hs (Dg (i) underlying100 sizeOf137 rfl rfl rfl oM<|Zy hs (Yf (i * 33+31) rfl<|O_n (Lq hs.f4 sizeOf3 rfl rfl rfl oM fun _ hs =>Wp 5 [0] hs rfl<|Zy hs (Dg (i) underlying100 sizeOf137 rfl rfl rfl oM<|Zy hs (Yf (i * 33+32) rfl<|O_n (Lq hs sizeOf3 rfl rfl rfl oM fun _ hs=>?_))))))
  rw [jU (e:=[Vi sm.kind,Vi sm.x,Vi sm.y,Vi sm.z,Vi sm.n,Vi sm.i,Vi sm.j,.slice Ab1 sm.b.length cb1,.bool sm.last,Vi sm.op.kind,.slice Ao1 sm.op.old.length co1,.slice An1 sm.op.new.length cn1,Af sm.c0,Af sm.c1,Af sm.c2,Af sm.c3,Vi sm.rule.base,Vi sm.rule.digits,Vi sm.rule.top,Vi sm.rule.over,.bool sm.rule.zeros,.slice Ap1 sm.p.length cp1,.slice Ay1 sm.ys.length cy1,Vi sm.cond.kind,.bool sm.cond.neg,Vi sm.cond.x,Vi sm.cond.y,Vi sm.cond.n,Vi sm.cond.k,.slice Ar1 sm.cond.r.length cr1,Hs sm.name,Vi (-1),Vi (-1)]) hD.2 hdi rfl] at hs
  refine Wp 1 [0] hs rfl ?_
  have hD2:=lnStep (e:=[Vi sm.kind,Vi sm.x,Vi sm.y,Vi sm.z,Vi sm.n,Vi sm.i,Vi sm.j,.slice Ab1 sm.b.length cb1,.bool sm.last,Vi sm.op.kind,.slice Ao1 sm.op.old.length co1,.slice An1 sm.op.new.length cn1,Af sm.c0,Af sm.c1,Af sm.c2,Af sm.c3,Vi sm.rule.base,Vi sm.rule.digits,Vi sm.rule.top,Vi sm.rule.over,.bool sm.rule.zeros,.slice Ap1 sm.p.length cp1,.slice Ay1 sm.ys.length cy1,Vi sm.cond.kind,.bool sm.cond.neg,Vi sm.cond.x,Vi sm.cond.y,Vi sm.cond.n,Vi sm.cond.k,.slice Ar1 sm.cond.r.length cr1,Hs sm.name,Vi (-1),Vi (-1)]) hD oM hsm ⟨_,_,_,_,_,_,rfl,⟨hb8,nb⟩,⟨ho8,no⟩,⟨hn8,nn⟩,⟨hp8,np⟩,⟨hy8,ny⟩,⟨hr8,nr⟩⟩
  have hdi2:(ds.set i [Vi sm.kind,Vi sm.x,Vi sm.y,Vi sm.z,Vi sm.n,Vi sm.i,Vi sm.j,.slice Ab1 sm.b.length cb1,.bool sm.last,Vi sm.op.kind,.slice Ao1 sm.op.old.length co1,.slice An1 sm.op.new.length cn1,Af sm.c0,Af sm.c1,Af sm.c2,Af sm.c3,Vi sm.rule.base,Vi sm.rule.digits,Vi sm.rule.top,Vi sm.rule.over,.bool sm.rule.zeros,.slice Ap1 sm.p.length cp1,.slice Ay1 sm.ys.length cy1,Vi sm.cond.kind,.bool sm.cond.neg,Vi sm.cond.x,Vi sm.cond.y,Vi sm.cond.n,Vi sm.cond.k,.slice Ar1 sm.cond.r.length cr1,Hs sm.name,Vi (-1),Vi (-1)])[i]?=some [Vi sm.kind,Vi sm.x,Vi sm.y,Vi sm.z,Vi sm.n,Vi sm.i,Vi sm.j,.slice Ab1 sm.b.length cb1,.bool sm.last,Vi sm.op.kind,.slice Ao1 sm.op.old.length co1,.slice An1 sm.op.new.length cn1,Af sm.c0,Af sm.c1,Af sm.c2,Af sm.c3,Vi sm.rule.base,Vi sm.rule.digits,Vi sm.rule.top,Vi sm.rule.over,.bool sm.rule.zeros,.slice Ap1 sm.p.length cp1,.slice Ay1 sm.ys.length cy1,Vi sm.cond.kind,.bool sm.cond.neg,Vi sm.cond.x,Vi sm.cond.y,Vi sm.cond.n,Vi sm.cond.k,.slice Ar1 sm.cond.r.length cr1,Hs sm.name,Vi (-1),Vi (-1)]:=List.getElem?_set_self (List.getElem?_eq_some_iff.1 hdi).1
  refine Wu 1 [] hs rfl<|Bb [0,1,2,3,4,5,6] hs kR ?_
  replace hs:=hs.drew
  refine Xr [0,1,2,3] [0,4] hs rfl<|Xt 4 hs rfl (Dg (i) underlying100 sizeOf137 rfl rfl rfl oM<|Xt 5 hs rfl (Hf (i:=i) (vs:=[Vi sm.kind,Vi sm.x,Vi sm.y,Vi sm.z,Vi sm.n,Vi sm.i,Vi sm.j,.slice Ab1 sm.b.length cb1,.bool sm.last,Vi sm.op.kind,.slice Ao1 sm.op.old.length co1,.slice An1 sm.op.new.length cn1,Af sm.c0,Af sm.c1,Af sm.c2,Af sm.c3,Vi sm.rule.base,Vi sm.rule.digits,Vi sm.rule.top,Vi sm.rule.over,.bool sm.rule.zeros,.slice Ap1 sm.p.length cp1,.slice Ay1 sm.ys.length cy1,Vi sm.cond.kind,.bool sm.cond.neg,Vi sm.cond.x,Vi sm.cond.y,Vi sm.cond.n,Vi sm.cond.k,.slice Ar1 sm.cond.r.length cr1,Hs sm.name,Vi (-1),Vi (-1)]) 0 rfl isAgg137 sizeOf137 rfl oM (jS hD2.2 hdi2) rfl ?_))
  have hle:=hs.le
  refine Xo 6 rfl (eH hs hM0 underlying100 sizeOf137 zeroValue137 kR kR kR rfl (es:=[[_,_,_,_,_,_,_,_,_,_,_,_,_,_,_,_,_,_,_,_,_,_,_,_,_,_,_,_,_,_,_,_,_]]) rfl rfl fun v3 _ _ hG28 hl28 hs=>?_)
  replace hE:=hE.mono hG28
  replace hb8:=hb8.mono hG28
  replace ho8:=ho8.mono hG28
  replace hn8:=hn8.mono hG28
  replace hp8:=hp8.mono hG28
  replace hy8:=hy8.mono hG28
  replace hr8:=hr8.mono hG28
  replace hD2:=hD2.mono hG28
  refine Am hs hle hG28 (Df _)<|Xa 7 rfl (Bf hs.f1 underlying100 jP rfl dC rfl rfl (hl28) ((Jv rfl)) oM oM fun v4 _ hs =>Xa 8 rfl (S_y hs rfl (Yf 0 rfl<|Xn 9 rfl (Sd hs.f4 rfl (hs.f4.rowOne 1 rfl) fun _ hs=>Xe (Zk [0,2,3,4] rfl ?_)))))
  obtain ⟨bv,cv,rfl,_⟩:=hs.rowForm 4 rfl dC
  have hs:=hs.f3
  have hsW:=hs.drop
  refine Bb [0,1,2,3,4,5,6,7,8,9] hsW kR ?_
  replace hs:=hs.drew
  replace hsW:=hsW.drew
  refine Xr [0,1,2,3] [1,0,1,0] hsW rfl<|Xt 4 hsW rfl (Bj (0) underlying41 sizeOf33 rfl rfl rfl oM<|Xt 5 hsW rfl (Dk 3 rfl isAgg33 rfl (rfl)<|Xr [6] [] hsW rfl ?_))
  have hle:=hs.le
  refine Xo 7 rfl (Oe hs hM0 underlying33 sizeOf3 zeroValue3 rfl rfl dC dC rfl (cs:=[_]) rfl rfl fun v5 _ _ hG38 hl38 hs=>?_)
  replace hE:=hE.mono hG38
  replace hb8:=hb8.mono hG38
  replace ho8:=ho8.mono hG38
  replace hn8:=hn8.mono hG38
  replace hp8:=hp8.mono hG38
  replace hy8:=hy8.mono hG38
  replace hr8:=hr8.mono hG38
  replace hD2:=hD2.mono hG38
  have hsW:=hs.drop
  refine Am hsW hle hG38 (Df _) ?_
  have hle:=hs.le
  refine Xo 8 rfl (Bf hs underlying33 Ko rfl dC rfl rfl (hl38) (Fh rfl) oM oM fun v6 _ hs=>?_)
  have hsW:=hs.drop
  refine Am hsW hle (Cj _) (Df _)<|Xt 9 hsW rfl (Bj (0) underlying41 sizeOf33 rfl rfl rfl oM<|Xn 10 rfl (Cu hs.f4 sizeOf33 rfl rfl (hs.f4.rowOne 1 rfl) oM fun _ hs =>Xe (Zk [0,2,3,4] rfl<|Wu 2 [] hs rfl<|Zy hs (Ya (s:=((i+1:Nat):Int)) rfl<|Wp 1 [] hs rfl ?_))))
  have hs:=hs.f5.f5.f4.f3.f4.f5
  refine Zx [0,2,3,4] rfl ⟨i+1,_,es++[[Vi sm.kind,Vi sm.x,Vi sm.y,Vi sm.z,Vi sm.n,Vi sm.i,Vi sm.j,.slice Ab1 sm.b.length cb1,.bool sm.last,Vi sm.op.kind,.slice Ao1 sm.op.old.length co1,.slice An1 sm.op.new.length cn1,Af sm.c0,Af sm.c1,Af sm.c2,Af sm.c3,Vi sm.rule.base,Vi sm.rule.digits,Vi sm.rule.top,Vi sm.rule.over,.bool sm.rule.zeros,.slice Ap1 sm.p.length cp1,.slice Ay1 sm.ys.length cy1,Vi sm.cond.kind,.bool sm.cond.neg,Vi sm.cond.x,Vi sm.cond.y,Vi sm.cond.n,Vi sm.cond.k,.slice Ar1 sm.cond.r.length cr1,Hs sm.name,Vi (-1),Vi (-1)]],v4,(Vs bv 1 cv),v6,_,by omega,hD2,(by rw [Ed oM,← hsm,List.map_append];exact hE.snoc ⟨_,_,_,_,_,_,rfl,⟨hb8,nb⟩,⟨ho8,no⟩,⟨hn8,nn⟩,⟨hp8,np⟩,⟨hy8,ny⟩,⟨hr8,nr⟩⟩ rfl),rfl,rfl,Bz (hs.weak hs.le (Cj _) (Ea [_,_,_,_,_,_] _)) (by simp [List.range_succ])⟩
 refine Wp 3 [0] hs rfl ?_
 obtain rfl:i=n:=by omega
 rw [List.take_of_length_le oM] at hE
 refine Wu 3 [3] hs rfl<|O_n (Sg hs.f5 rfl (by simp only [List.all_cons,List.all_nil,hs.f5.rowOne 1 rfl,hs.f5.rowOne 3 rfl];rfl) fun _ hs=>Wp 1 [0] hs rfl<|Ah ?_)
 have hs:=hs.f2
 obtain ⟨_,hG_hfx,hfx,hs⟩:=hs.fixRow (noMr 4 hs rfl)
 replace hE:=hE.mono hG_hfx
 have hs:=hs.f2.f2
 refine Zz results72 (Rb 2 hs rfl rF) ?_
 exact ⟨_,_,hs.weak hs.le (Cj _) (Ea [_,_] _),_,_,es,_,rfl,hE,(by simpa [Cc] using hfx),rfl⟩
theorem pT {v:Value} {G:Ghost} {n:Nat} {xs:List Value} (hx:Sl G v 1 n xs) (h1:∀ y∈xs,y.oneCell'=true) (hn:n≤100000) :
  Ai prog 32 [v] G [] fun r G' H'=>H'=[]∧Sl G' r 1 n xs∧(v=Vn→r=Vn):=by
 obtain ⟨A,cap,rfl,hl'⟩:=id hx
 refine Ai.of_T [(0,_)] func32 rfl ntmps32 sM rfl fun w0 hs=>?_
 have hx0:=hx
 refine Wt 8 [0] hs rfl<|Zy hs (lE underlying33 rfl rfl (fun h4=>?_) (fun h4=>?_))
 ·
  refine Wp 6 [0,0] hs rfl<|Ah<|Zz results32 rfl ?_
  have hn0:n=0:=Sl.nil_of (h4▸hx)
  subst hn0
  have hxs:xs=[]:=List.eq_nil_of_length_eq_zero (by simpa using hl'.1)
  subst hxs
  exact ⟨_,[],hs.done,rfl,Sl.nil _ _,fun _=>rfl⟩
 refine Wp 5 [0] hs rfl<|O_s (Se hs zeroValue3 rfl fun v1 _ hs _=>Wp 1 [] hs rfl<|O_s (Bf hs underlying33 Ko rfl dC rfl rfl (hx) (h1) oM oM fun v2 _ hs =>Wp 2 [0] hs rfl<|Ah<|Zz results32 rfl ?_))
 obtain ⟨G',hG,hf,hs3⟩:=hs.fixRow noM
 exact ⟨G',[],hs3,rfl,by simpa using hf,fun h=>absurd (by injection h) h4⟩
theorem pU {v:Value} {G:Ghost} {n:Nat} {xs:List Value} (hx:Sl G v 1 n xs) (h1:∀ y∈xs,y.oneCell'=true) (hn:n≤100000) :
  Ai prog 32 [v] G [] fun r _ H'=>H'=[.row 3 1 r n xs]∧(v=Vn→r=Vn):=by
 obtain ⟨A,cap,rfl,hl'⟩:=id hx
 refine Ai.of_T [(0,_)] func32 rfl ntmps32 sM rfl fun w0 hs=>?_
 have hx0:=hx
 refine Wt 8 [0] hs rfl<|Zy hs (lE underlying33 rfl rfl (fun h4=>?_) (fun h4=>?_))
 ·
  refine Wp 6 [0,0] hs rfl<|Ah<|Zz results32 rfl ?_
  have hn0:n=0:=Sl.nil_of (h4▸hx)
  subst hn0
  have hxs:xs=[]:=List.eq_nil_of_length_eq_zero (by simpa using hl'.1)
  subst hxs
  have hs:=hs.done.nilRow 3 1
  exact ⟨_,_,hs,rfl,fun _=>rfl⟩
 refine Wp 5 [0] hs rfl<|O_s (Se hs zeroValue3 rfl fun v1 _ hs _=>Wp 1 [] hs rfl<|O_s (Bf hs underlying33 Ko rfl dC rfl rfl (hx) (h1) oM oM fun v2 _ hs =>Wp 2 [0] hs rfl<|Ah<|Zz results32 rfl ?_))
 have hz:=hs
 rw [Nat.zero_add] at hz
 exact ⟨_,_,hz,rfl,fun h=>absurd (by injection h) h4⟩
def els1:List Bm→List Bm
  | []=>[]
  | s::l=>{ s with els:=1 }::l
theorem Gw.setEls {G:Ghost} {c:List Value} {s:Bm} (h:Gw G c s) (z:Int):Gw G (c.set 32 (Vi z)) { s with els:=z }:=by
  obtain ⟨wb,wo,wn,wp,wy,wr,rfl,h⟩:=h
  exact ⟨wb,wo,wn,wp,wy,wr,rfl,h⟩
theorem Gw.setThn {G:Ghost} {c:List Value} {s:Bm} (h:Gw G c s) (z:Int):Gw G (c.set 31 (Vi z)) { s with thn:=z }:=by
  obtain ⟨wb,wo,wn,wp,wy,wr,rfl,h⟩:=h
  exact ⟨wb,wo,wn,wp,wy,wr,rfl,h⟩
theorem Ej.len {G:Ghost} {vs:List Value} {l:List (List Nat)} (h:Ej G vs l):vs.length=l.length:=Cr.length h
theorem Gw.plain {G:Ghost} {s:Bm} (h1:s.b=[]) (h2:s.op.old=[]) (h3:s.op.new=[]) (h4:s.p=[]) (h5:s.ys=[]) (h6:s.cond.r=[]):Gw G (lQ s (Vn) (Vn) (Vn) (Vn) (Vn) (Vn)) s:=by
  refine ⟨_,_,_,_,_,_,rfl,⟨?_,fun _=>rfl⟩,⟨?_,fun _=>rfl⟩,⟨?_,fun _=>rfl⟩,⟨?_,fun _=>rfl⟩,⟨?_,fun _=>rfl⟩,⟨?_,fun _=>rfl⟩⟩
  · rw [h1];exact Sl.nil _ _
  · rw [h2];exact Sl.nil _ _
  · rw [h3];exact Sl.nil _ _
  · rw [h4];exact Be.nil
  · rw [h5];exact Sl.nil _ _
  · rw [h6];exact Be.nil
theorem yT {G:Ghost} {es:List (List Value)} {l:List Bm} {c:List Value} {s:Bm} (hE:Ha G es l) (hs:l[0]?=some s) (hc:Gw G c s):Ha G (es.set 0 (c.set 32 (Vi 1))) (els1 l):=by
  cases l with
  | nil=>cases hs
  | cons a l =>
    injection hs with hs;subst hs
    exact hE.put (i:=0) (hc.setEls 1)
def Mv (nm:List UInt8) (x:Int):Bm:={ Bg 13 with name:=nm,x:=x }
def mW:Bm:={ Bg 14 with i:=1 }
theorem Fv {G:Ghost} {vs vb:Value} {es:List (List Value)} {us:List Value} {p:By} {n k:Nat} (hE:Ha G es p.stmts) (hU:Ej G us p.blocks) (h1:Sl G vs 33 n es.flatten) (h2:Sl G vb 1 k us) (hn:n=p.stmts.length) (hk:k=p.blocks.length) (h3:p.stmts≠[]) (h4:p.blocks≠[]):pM G [vs,vb] p :=
  ⟨vs,vb,rfl,⟨hE.fin h1 hn,fun h=>absurd h h3⟩,⟨Ej.fin h2 hk hU,fun h=>absurd h h4⟩⟩
theorem Hk {G:Ghost} {b n:Nat} {css:List (List Value)} {ss:List Bm} (hn:ss.length=n) (h1:1≤n) (h2:n≤100) (hA:Ha G css ss) :
  Ai prog 73 [(Vs b n n)] G [.row 137 33 (Vs b n n) n css.flatten] fun r G' H'=>∃ vs vb es us,r=.agg #[vs,vb]∧Ha G' es (els1 (ss.map aW)++[mW])∧Ej G' us [List.range n,[n]]∧H'=[.row 137 33 vs (n+1) es.flatten,.row 33 1 vb 2 us]:=by
 refine Ai.of_T [(0,_)] func73 rfl ntmps73 sM rfl fun w0 hs=>?_
 have hA0:=hA
 have hM0:=hs.feetLt
 refine Wt 2 [] hs rfl<|O_s (Sa hs zeroValue102 rfl fun b2 _ hs=>Wp 4 [0] hs rfl<|O_s (Sc (Ky hn h1 h2 hA) hs.f1 rfl fun v1 G' H' _ hR hG5 hs=>?_))
 obtain ⟨vs,vb,es,u,rfl,hE,hU,rfl⟩:=hR
 replace hs:=hs.n rfl
 refine O_s (Sa hs zeroValue102 rfl fun b3 _ hs=>O_n (Sg hs rfl (by simp only [List.all_cons,List.all_nil,hs.rowOne 1 rfl,hs.rowOne 2 rfl];rfl) fun _ hs=>Wp 1 [0] hs rfl ?_))
 obtain ⟨bs,cs,rfl,_⟩:=hs.rowForm 1 rfl oM
 obtain ⟨s0,hs0⟩:∃ s,(ss.map aW)[0]?=some s:=⟨_,List.getElem?_eq_getElem kY⟩
 obtain ⟨c0,hc0,hsr0⟩:=hE.at_ hs0
 refine Wu 4 [0,0] hs rfl<|Zy hs (Dg (0) underlying100 sizeOf137 rfl rfl rfl oM<|Zy hs (Yf (0 * 33+32) rfl<|O_n (Lq hs.f1 sizeOf3 rfl rfl rfl oM fun _ hs=>?_)))
 rw [Mb (k:=33) hE.2 hc0 dC] at hs
 refine Wp 8 [0,1,1,0,1] hs rfl<|O_s (Oe hs hM0 underlying33 sizeOf3 zeroValue3 rfl rfl dC dC rfl (cs:=[_]) rfl rfl fun v2 _ _ hG15 hl15 hs=>?_)
 replace hE:=hE.mono hG15
 replace hU:=hU.mono hG15
 replace hsr0:=hsr0.mono hG15
 obtain ⟨A15,c15,rfl,_⟩:=id hl15
 refine O_s (Oe hs hM0 underlying41 sizeOf33 zeroValue33 rfl rfl dC dC rfl (cs:=[_]) rfl rfl fun v3 _ _ hG16 hl16 hs=>?_)
 replace hE:=hE.mono hG16
 replace hU:=hU.mono hG16
 replace hsr0:=hsr0.mono hG16
 replace hl15:=hl15.mono hG16
 refine O_s (Bf hs.f2 underlying41 bY rfl dC rfl rfl (hl16) (Fh rfl) oM oM fun v4 _ hs =>Wp 1 [1] hs rfl<|O_n (Sd hs.f2 rfl (hs.f2.rowOne 1 rfl) fun _ hs=>Wp 2 [0] hs rfl<|Bb [0,1,2,3] hs kR ?_))
 replace hs:=hs.drew
 refine Xr [0,1] [0,0] hs rfl ?_
 have hle:=hs.le
 refine Xo 2 rfl (Sc (rrej_ok) hs rfl fun v5 G' H' _ hR hG21 hs=>?_)
 obtain ⟨rfl,rfl⟩:=hR
 replace hs:=hs.n rfl
 replace hE:=hE.mono hG21
 replace hU:=hU.mono hG21
 replace hsr0:=hsr0.mono hG21
 replace hl15:=hl15.mono hG21
 refine Am hs hle hG21 (Df _) ?_
 have hle:=hs.le
 refine Xo 3 rfl (eH hs hM0 underlying100 sizeOf137 zeroValue137 kR kR kR rfl (es:=[[_,_,_,_,_,_,_,_,_,_,_,_,_,_,_,_,_,_,_,_,_,_,_,_,_,_,_,_,_,_,_,_,_]]) rfl rfl fun v6 _ _ hG22 hl22 hs=>?_)
 replace hE:=hE.mono hG22
 replace hU:=hU.mono hG22
 replace hsr0:=hsr0.mono hG22
 replace hl15:=hl15.mono hG22
 refine Am hs hle hG22 (Df _)<|Xa 4 rfl (Bf hs.f2 underlying100 jP rfl dC rfl rfl (hl22) ((Jv rfl)) oM oM fun v7 _ hs =>Xa 5 rfl (S_y hs rfl (Yf 0 rfl<|Xn 6 rfl (Sd hs.f1 rfl (hs.f1.rowOne 1 rfl) fun _ hs=>Xe (Zk [2,3] rfl<|Wu 3 [0] hs rfl<|O_n (Sg hs.f3 rfl (by simp only [List.all_cons,List.all_nil,hs.f3.rowOne 2 rfl,hs.f3.rowOne 3 rfl];rfl) fun _ hs=>Wp 1 [0] hs rfl<|Ah ?_))))))
 have hs:=hs.f3.f3
 refine Zz results73 (Rb 2 hs rfl rF) ?_
 exact ⟨_,_,hs.weak hs.le (Cj _) (Ea [_,_] _),_,_,_++[lQ mW (Vn) (Vn) (Vn) (Vn) (Vn) (Vn)],[u,.slice A15 1 c15],rfl,(yT hE hs0 hsr0).snoc (Gw.plain rfl rfl rfl rfl rfl rfl) rfl,⟨hU,hl15,trivial⟩,by rw [List.flatten_append];rfl⟩
def ifM (cd:Nj):Bm:={ Bg 10 with cond:=cd,thn:=0,els:=0 }
def choM (cd:Nj):List Bm:=[{ Bg 10 with cond:=cd,thn:=1,els:=2 },Mv [120] 0,Mv [121] 0]
theorem Gw.ifS {G:Ghost} {cd:Nj} {vr:Value} (hr:Rx G vr cd.r) (hz:cD vr cd.r):Gw G (lQ (ifM cd) (Vn) (Vn) (Vn) (Vn) (Vn) vr) (ifM cd) :=
  ⟨_,_,_,_,_,_,rfl,⟨Sl.nil _ _,fun _=>rfl⟩,⟨Sl.nil _ _,fun _=>rfl⟩,⟨Sl.nil _ _,fun _=>rfl⟩,⟨Be.nil,fun _=>rfl⟩,⟨Sl.nil _ _,fun _=>rfl⟩,⟨hr,hz⟩⟩
theorem Ha.one {G:Ghost} {c:List Value} {s:Bm} (h:Gw G c s):Ha G [c] [s]:=⟨⟨h,trivial⟩,fun d hd=>by rw [List.mem_singleton.1 hd];exact h.len⟩
theorem cho_acc {G:Ghost} {es:List (List Value)} {c:List Value} {s:Bm} (hE:Ha G es [s]) (hs:es[0]?=some c):Ha G (es.set 0 ((c.set 31 (Vi 1)).set 32 (Vi 2))) [{ s with thn:=1,els:=2 }]:=by
  obtain ⟨c',hc,hs'⟩:=hE.at_ (i:=0) (s:=s) rfl
  rw [hs] at hc
  injection hc with hc;subst hc
  exact hE.put (i:=0) ((hs'.setThn 1).setEls 2)
theorem pV {G:Ghost} {cd:Nj} {Ar:Option Addr} {kr:Nat} (hr:Rx G (.slice Ar cd.r.length kr) cd.r) (hz:cD (.slice Ar cd.r.length kr) cd.r) :
  Ai prog 76 [.agg #[Vi cd.kind,.bool cd.neg,Vi cd.x,Vi cd.y,Vi cd.n,Vi cd.k,.slice Ar cd.r.length kr]] G [] fun r G' H'=>∃ vs vb es us,r=.agg #[vs,vb]∧Ha G' es (choM cd)∧Ej G' us [[0],[1],[2]]∧H'=[.row 137 33 vs 3 es.flatten,.row 33 1 vb 3 us]:=by
 refine Ai.of_T [(0,_)] func76 rfl ntmps76 sM rfl fun w0 hs=>?_
 have hr0:=hr
 refine Wt 2 [] hs rfl<|O_s (Sb hs rfl fun b1 _ hs=>O_s (Sa hs zeroValue102 rfl fun b2 _ hs=>Wp 4 [0,1] hs rfl<|Zy hs (Ba zeroValue137 rfl Fw rfl (cs:=[_,_,_,_,_,_,_,_,_,_,_,_,_,_,_,_,_,_,_,_,_,_,_,_,_,_,_,_,_,_,_,_,_]) rfl<|O_s (Ft hs underlying100 sizeOf137 zeroValue137 kR kR kR rfl (es:=[[_,_,_,_,_,_,_,_,_,_,_,_,_,_,_,_,_,_,_,_,_,_,_,_,_,_,_,_,_,_,_,_,_]]) rfl rfl fun v1 _ hs shl=>?_))))
 obtain ⟨bl6,rfl⟩:=shl
 refine O_s (Sc (Ky (b:=bl6) (n:=1) (css:=[[Vi 10,Vi 0,Vi 0,Vi 0,Vi 0,Vi 0,Vi 0,Vn,Vf,Vi 0,Vn,Vn,Af 0,Af 0,Af 0,Af 0,Vi 0,Vi 0,Vi 0,Vi 0,Vf,Vn,Vn,Vi cd.kind,.bool cd.neg,Vi cd.x,Vi cd.y,Vi cd.n,Vi cd.k,.slice Ar cd.r.length kr,.string ⟨[].toArray⟩,Vi 0,Vi 0]]) (ss:=[ifM cd]) rfl dC dC (Ha.one (Gw.ifS hr hz))) hs rfl fun v2 G' H' _ hR hG7 hs=>?_)
 obtain ⟨vs,vb,es,u,rfl,hE,hU,rfl⟩:=hR
 replace hs:=hs.n rfl
 refine O_s (Sa hs zeroValue102 rfl fun b3 _ hs=>O_n (Sg hs rfl (by simp only [List.all_cons,List.all_nil,hs.rowOne 1 rfl,hs.rowOne 2 rfl];rfl) fun _ hs=>Wp 1 [0] hs rfl ?_))
 obtain ⟨bs,cs,rfl,_⟩:=hs.rowForm 1 rfl dC
 obtain ⟨c0,hc0,_⟩:=hE.at_ (i:=0) rfl
 refine Wu 4 [0,0] hs rfl<|Zy hs (Dg (0) underlying100 sizeOf137 rfl rfl rfl oM<|Zy hs (Yf (0 * 33+31) rfl<|O_n (Lq hs.f1 sizeOf3 rfl rfl rfl oM fun _ hs =>Wp 5 [0,0,1] hs rfl<|Zy hs (Dg (0) underlying100 sizeOf137 rfl rfl rfl oM<|Zy hs (Yf (0 * 33+32) rfl<|O_n (Lq hs sizeOf3 rfl rfl rfl oM fun _ hs=>?_))))))
 rw [jU (c:=c0) hE.2 hc0 rfl] at hs
 refine Wp 5 [0,1,1] hs rfl<|O_s (Se hs zeroValue3 rfl fun v3 _ hs _=>?_)
 have hsN:=hs.fixRow noM
 clear hs
 obtain ⟨_,hG18,hl18,hs⟩:=hsN
 replace hE:=hE.mono hG18
 replace hU:=hU.mono hG18
 obtain ⟨A18,c18,rfl,_⟩:=id hl18
 refine O_s (Se hs zeroValue33 rfl fun v4 _ hs _=>?_)
 obtain ⟨_,hG19,hl19,hs⟩:=hs.fixRow noM
 replace hE:=hE.mono hG19
 replace hU:=hU.mono hG19
 replace hl18:=hl18.mono hG19
 refine O_s (Bf hs.f2 underlying41 bY rfl dC rfl rfl (hl19) (Fh rfl) oM oM fun v5 _ hs =>Wp 1 [1] hs rfl<|O_n (Sd hs.f2 rfl (hs.f2.rowOne 1 rfl) fun _ hs=>Wp 5 [2,2,3,1,0] hs rfl<|O_s (Se hs zeroValue3 rfl fun v6 _ hs _=>?_)))
 have hsN:=hs.fixRow noM
 clear hs
 obtain ⟨_,hG24,hl24,hs⟩:=hsN
 replace hE:=hE.mono hG24
 replace hU:=hU.mono hG24
 replace hl18:=hl18.mono hG24
 obtain ⟨A24,c24,rfl,_⟩:=id hl24
 refine O_s (Se hs zeroValue33 rfl fun v7 _ hs _=>?_)
 obtain ⟨_,hG25,hl25,hs⟩:=hs.fixRow noM
 replace hE:=hE.mono hG25
 replace hU:=hU.mono hG25
 replace hl18:=hl18.mono hG25
 replace hl24:=hl24.mono hG25
 refine O_s (Bf hs.f1 underlying41 bY rfl dC rfl rfl (hl25) (Fh rfl) oM oM fun v8 _ hs =>Wp 1 [1] hs rfl<|O_n (Sd hs.f1 rfl (hs.f1.rowOne 1 rfl) fun _ hs=>Wp 2 [0] hs rfl<|Bb [0,1,2,3] hs kR ?_))
 replace hs:=hs.drew
 refine Xr [0,1] [0,0] hs rfl ?_
 have hle:=hs.le
 refine Xo 2 rfl (Sc (jR (x:=0)) hs rfl fun v9 G' H' _ hR hG30 hs=>?_)
 obtain ⟨rfl,rfl⟩:=hR
 replace hs:=hs.n rfl
 replace hE:=hE.mono hG30
 replace hU:=hU.mono hG30
 replace hl18:=hl18.mono hG30
 replace hl24:=hl24.mono hG30
 refine Am hs hle hG30 (Df _) ?_
 have hle:=hs.le
 refine Xo 3 rfl (Ft hs underlying100 sizeOf137 zeroValue137 kR kR kR rfl (es:=[[_,_,_,_,_,_,_,_,_,_,_,_,_,_,_,_,_,_,_,_,_,_,_,_,_,_,_,_,_,_,_,_,_]]) rfl rfl fun v10 _ hs _=>?_)
 obtain ⟨_,hG31,hl31,hs⟩:=hs.fixRow noM
 replace hE:=hE.mono hG31
 replace hU:=hU.mono hG31
 replace hl18:=hl18.mono hG31
 replace hl24:=hl24.mono hG31
 refine Am hs hle hG31 (Df _)<|Xa 4 rfl (Bf hs.f2 underlying100 jP rfl dC rfl rfl (hl31) ((Jv rfl)) oM oM fun v11 _ hs =>Xa 5 rfl (S_y hs rfl (Yf 0 rfl<|Xn 6 rfl (Sd hs.f1 rfl (hs.f1.rowOne 1 rfl) fun _ hs=>Xe (Zk [2,3] rfl<|Wu 1 [] hs rfl<|Bb [0,1,2,3] hs kR ?_)))))
 replace hs:=hs.drew
 refine Xr [0,1] [0,0] hs rfl ?_
 have hle:=hs.le
 refine Xo 2 rfl (Sc (yS (x:=0)) hs rfl fun v12 G' H' _ hR hG36 hs=>?_)
 obtain ⟨rfl,rfl⟩:=hR
 replace hs:=hs.n rfl
 replace hE:=hE.mono hG36
 replace hU:=hU.mono hG36
 replace hl18:=hl18.mono hG36
 replace hl24:=hl24.mono hG36
 refine Am hs hle hG36 (Df _) ?_
 have hle:=hs.le
 refine Xo 3 rfl (Ft hs underlying100 sizeOf137 zeroValue137 kR kR kR rfl (es:=[[_,_,_,_,_,_,_,_,_,_,_,_,_,_,_,_,_,_,_,_,_,_,_,_,_,_,_,_,_,_,_,_,_]]) rfl rfl fun v13 _ hs _=>?_)
 obtain ⟨_,hG37,hl37,hs⟩:=hs.fixRow noM
 replace hE:=hE.mono hG37
 replace hU:=hU.mono hG37
 replace hl18:=hl18.mono hG37
 replace hl24:=hl24.mono hG37
 refine Am hs hle hG37 (Df _)<|Xa 4 rfl (Bf hs.f1 underlying100 jP rfl dC rfl rfl (hl37) ((Jv rfl)) oM oM fun v14 _ hs =>Xa 5 rfl (S_y hs rfl (Yf 0 rfl<|Xn 6 rfl (Sd hs.f1 rfl (hs.f1.rowOne 1 rfl) fun _ hs=>Xe (Zk [2,3] rfl<|Wu 3 [0] hs rfl<|O_n (Sg hs.f3 rfl (by simp only [List.all_cons,List.all_nil,hs.f3.rowOne 2 rfl,hs.f3.rowOne 3 rfl];rfl) fun _ hs=>Wp 1 [0] hs rfl<|Ah ?_))))))
 have hs:=hs.f3.f3
 refine Zz results76 (Rb 2 hs rfl rF) ?_
 exact ⟨_,_,hs.weak hs.le (Cj _) (Ea [_,_] _),_,_,_++[lQ (Mv [120] 0) (Vn) (Vn) (Vn) (Vn) (Vn) (Vn)]++[lQ (Mv [121] 0) (Vn) (Vn) (Vn) (Vn) (Vn) (Vn)],[u,.slice A18 1 c18,.slice A24 1 c24],rfl,((cho_acc hE hc0).snoc (Gw.plain rfl rfl rfl rfl rfl rfl) rfl).snoc (Gw.plain rfl rfl rfl rfl rfl rfl) rfl,⟨hU,hl18,hl24,trivial⟩,by rw [List.flatten_append,List.flatten_append];rfl⟩
theorem fL {G:Ghost} {bb:Nat} {vs vb:Value} {z1 z1' z3 z4 j:Int} {z2:Bool} (h0:0≤z1) (h12:z1+1≤12) (hz:z1+1=z1') :
  Ai prog 143 [Vp bb] G [.blk bb 174 [vs,vb,Vi j,Vi z1,.bool z2,Vi z3,Vi z4]] fun r _ H'=>r=Vi z1∧H'=[.blk bb 174 [vs,vb,Vi j,Vi z1',.bool z2,Vi z3,Vi z4]]:=by
 subst hz
 refine Ai.of_T [(0,_)] func143 rfl ntmps143 sM rfl fun w0 hs =>Wt 7 [0] hs rfl<|Zy hs (Fm rfl<|Wp 8 [3,0,0] hs rfl<|Zy hs (Fm rfl<|Wp 2 [3,0] hs rfl<|Zy hs (Ef (c:=(z1+1)) rfl rfl (rfl) oM<|Zy hs (nN (c:=(z1+1)) rfl rfl oM<|Zy hs (Fm rfl<|Wp 1 [3] hs rfl<|O_n (Sd hs rfl rfl fun _ hs=>Wp 6 [0,0] hs rfl<|Ah<|Zz results143 rfl ?_))))))
 exact ⟨_,_,hs,rfl,rfl⟩
theorem Pn {G:Ghost} {bb bv cv k j n m:Nat} {vs x:Value} {xs:List Value} {css:List (List Value)} {l:List Nat} {z1 z3 z4:Int} {z2:Bool} {q0 q1 q2 q3 q4 q5 q6 q7 q8 q9 q10 q11 q12 q13 q14 q15 q16 q17 q18 q19 q20 q21 q22 q23 q24 q25 q26 q27 q28 q29 q30 q31 q32:Value} (hjk:j<k) (hx:xs[j]?=some x) (hlm:l.length=m) (hn:n≤1000) (hm:m≤1000) (h1:[q0,q1,q2,q3,q4,q5,q6,q7,q8,q9,q10,q11,q12,q13,q14,q15,q16,q17,q18,q19,q20,q21,q22,q23,q24,q25,q26,q27,q28,q29,q30,q31,q32].all (fun c=>c.oneCell')=true) :
  Ai prog 104 [Vp bb,.agg #[q0,q1,q2,q3,q4,q5,q6,q7,q8,q9,q10,q11,q12,q13,q14,q15,q16,q17,q18,q19,q20,q21,q22,q23,q24,q25,q26,q27,q28,q29,q30,q31,q32]] G [.blk bb 174 [vs,(Vs bv k cv),Vi (j:Int),Vi z1,.bool z2,Vi z3,Vi z4],.row 137 33 vs n css.flatten,.row 33 1 (Vs bv k cv) k xs,.row 3 1 x m (l.map Co)] fun r _ H'=>∃ vs' x',H'=[.blk bb 174 [vs',(Vs bv k cv),Vi (j:Int),Vi z1,.bool z2,Vi z3,Vi z4],.row 137 33 vs' (n+1) (css++[[q0,q1,q2,q3,q4,q5,q6,q7,q8,q9,q10,q11,q12,q13,q14,q15,q16,q17,q18,q19,q20,q21,q22,q23,q24,q25,q26,q27,q28,q29,q30,q31,q32]]).flatten,.row 33 1 (Vs bv k cv) k (xs.set j x'),.row 3 1 x' (m+1) ((l++[n]).map Co)]:=by
 refine Ai.of_T [(0,_),(1,_)] func104 rfl ntmps104 sM rfl fun w0 hs=>?_
 have hM0:=hs.feetLt
 refine Wt 2 [] hs rfl<|O_s (Sb hs rfl fun b3 _ hs=>Wp 1 [0] hs rfl ?_)
 have hs:=hs.f4
 have hsW:=hs.drop
 refine Wu 1 [] hs rfl<|Bb [0,1,2,3,4,5,6,7,8,9,10,11,12,13,14,15,16,17,18,19,20,21,22,23,24,25,26,27,28] hsW kR ?_
 replace hs:=hs.drew
 replace hsW:=hsW.drew
 refine Xr [0] [] hsW rfl<|Xt 1 hsW rfl (Fm rfl<|Xr [2,3,4,5] [0,1,1] hsW rfl<|Xt 6 hsW rfl (Fm rfl<|Xr [7,8,9] [2,1] hsW rfl<|Xt 10 hsW rfl (Fm rfl<|Xr [11,12,13,14] [0,1,1] hsW rfl<|Xt 15 hsW rfl (Fm rfl<|Xr [16,17] [2,1] hsW rfl<|Xt 18 hsW rfl (Bj (j) underlying41 sizeOf33 rfl rfl rfl oM<|Xt 19 hsW rfl (Dk 3 rfl isAgg33 rfl (hx)<|Xr [20] [] hsW rfl<|Xt 21 hsW rfl (Fm rfl<|Xr [22,23,24] [0,0,1] hsW rfl<|Xt 25 hsW rfl (Du 2 rfl underlying100 rfl hsW ?_))))))))
 have hle:=hs.le
 refine Xo 26 rfl (Oe hs hM0 underlying33 sizeOf3 zeroValue3 rfl rfl dC dC rfl (cs:=[_]) rfl rfl fun v1 _ _ hG30 hl30 hs=>?_)
 have hsW:=hs.drop
 refine Am hsW hle hG30 (Df _) ?_
 have hle:=hs.le
 refine Xo 27 rfl (Bf hs underlying33 Ko rfl dC rfl rfl (hl30) (Fh rfl) oM oM fun v2 _ hs=>?_)
 have hsW:=hs.drop
 refine Am hsW hle (Cj _) (Df _)<|Xt 28 hsW rfl (Bj (j) underlying41 sizeOf33 rfl rfl rfl oM<|Xn 29 rfl (Cu hs.f4 sizeOf33 rfl rfl (hs.f4.rowOne 1 rfl) oM fun _ hs =>Xe (Zk [0,3] rfl<|Bb [1,2,3,4,5,6,7] hs kR ?_)))
 replace hs:=hs.drew
 refine Lc 0 rfl kR rfl (Tt rfl<|Xr [1] [] hs rfl<|Xt 2 hs rfl (Fm rfl<|Xr [3,4,5,6] [0,0,3,2] hs rfl ?_))
 have hle:=hs.le
 refine Xo 7 rfl (eH hs hM0 underlying100 sizeOf137 zeroValue137 kR kR kR rfl (es:=[[_,_,_,_,_,_,_,_,_,_,_,_,_,_,_,_,_,_,_,_,_,_,_,_,_,_,_,_,_,_,_,_,_]]) rfl rfl fun v3 _ _ hG40 hl40 hs =>Am hs hle hG40 (Df _)<|Xa 8 rfl (Bf hs.f4 underlying100 jP rfl dC rfl rfl (hl40) ((Jv h1)) oM oM fun v4 _ hs =>Xa 9 rfl (S_y hs rfl (Fm rfl<|Xa 10 rfl (S_y hs rfl (Yf 0 rfl<|Xa 11 rfl (S_y hs rfl (Yf 0 rfl<|Xn 12 rfl (Sd hs.f4 rfl (hs.f4.rowOne 1 rfl) fun _ hs=>?_)))))))))
 have hs:=hs.f3.f3.f3.f3
 refine Qh kR (Ff (vs:=[]) results104 rfl trivial ?_)
 try dsimp only [tup]
 exact ⟨_,_,hs.weak hs.le (Cj _) (Ea [_,_,_,_] _),_,_,by rw [List.flatten_append,List.map_append];rfl⟩
theorem rbsu_ok {G:Ghost} {bb bv cv k j n:Nat} {vs:Value} {xs:List Value} {css:List (List Value)} {z1 z3 z4:Int} {z2:Bool} {q0 q1 q2 q3 q4 q5 q6 q7 q8 q9 q10 q11 q12 q13 q14 q15 q16 q17 q18 q19 q20 q21 q22 q23 q24 q25 q26 q27 q28 q29 q30 q31 q32:Value} (hk:k≤1000) (hxk:xs.length=k) (hn:n≤1000) (h1:[q0,q1,q2,q3,q4,q5,q6,q7,q8,q9,q10,q11,q12,q13,q14,q15,q16,q17,q18,q19,q20,q21,q22,q23,q24,q25,q26,q27,q28,q29,q30,q31,q32].all (fun c=>c.oneCell')=true) :
  Ai prog 144 [Vp bb,.agg #[q0,q1,q2,q3,q4,q5,q6,q7,q8,q9,q10,q11,q12,q13,q14,q15,q16,q17,q18,q19,q20,q21,q22,q23,q24,q25,q26,q27,q28,q29,q30,q31,q32]] G [.blk bb 174 [vs,(Vs bv k cv),Vi (j:Int),Vi z1,.bool z2,Vi z3,Vi z4],.row 137 33 vs n css.flatten,.row 33 1 (Vs bv k cv) k xs] fun r _ H'=>r=Vi (k:Int)∧∃ vs' bw cw x',H'=[.blk bb 174 [vs',(Vs bw (k+1) cw),Vi (j:Int),Vi z1,.bool z2,Vi z3,Vi z4],.row 137 33 vs' (n+1) (css++[[q0,q1,q2,q3,q4,q5,q6,q7,q8,q9,q10,q11,q12,q13,q14,q15,q16,q17,q18,q19,q20,q21,q22,q23,q24,q25,q26,q27,q28,q29,q30,q31,q32]]).flatten,.row 33 1 (Vs bw (k+1) cw) (k+1) (xs++[x']),.row 3 1 x' 1 ([n].map Co)]:=by
 refine Ai.of_T [(0,_),(1,_)] func144 rfl ntmps144 sM rfl fun w0 hs=>?_
 have hM0:=hs.feetLt
 refine Wt 2 [] hs rfl<|O_s (Sb hs rfl fun b3 _ hs=>Wp 5 [0] hs rfl<|Zy hs (Fm rfl<|Wp 10 [0,1,1,0] hs rfl<|Zy hs (Fm rfl<|Wp 3 [0,1,1] hs rfl<|O_s (Se hs zeroValue3 rfl fun v1 _ hs shl=>?_))))
 obtain ⟨bl19,rfl⟩:=shl
 refine O_s (Oe hs hM0 underlying41 sizeOf33 zeroValue33 rfl rfl dC dC rfl (cs:=[_]) rfl rfl fun v2 _ _ hG20 hl20 hs =>O_s (Bf hs.f4 underlying41 bY rfl dC rfl rfl (hl20) (Fh rfl) oM oM fun v3 _ hs =>Zy hs (Fm rfl<|Wp 2 [0,1] hs rfl<|O_n (Sd hs.f3 rfl (hs.f3.rowOne 1 rfl) fun _ hs=>Wp 4 [3,0,3,5] hs rfl<|Zy hs (Fm rfl<|Wp 8 [2,0,0] hs rfl<|Zy hs (Fm rfl<|Wp 1 [2] hs rfl<|O_n (Sd hs rfl rfl fun _ hs=>Wp 1 [0] hs rfl ?_)))))))
 obtain ⟨bw,cw,rfl,_⟩:=hs.rowForm 1 rfl oM
 refine Wu 4 [3] hs rfl<|O_s (Sc (Pn (k:=k+1) (j:=k) (m:=0) (l:=[]) (x:=Vs bl19 0 0) oM (by rw [List.getElem?_append_right oM,hxk,Nat.sub_self];rfl) rfl hn oM h1) hs.f2.f2.f4.f3 rfl fun v4 G' H' _ hR hG35 hs=>?_)
 obtain ⟨vsN,xN,rfl⟩:=hR
 replace hs:=hs.n rfl
 refine Wp 5 [0] hs rfl<|Zy hs (Fm rfl<|Wp 1 [2] hs rfl<|O_n (Sd hs rfl rfl fun _ hs=>Wp 6 [0,0] hs rfl<|Ah ?_))
 have hs:=hs.f3.f3.f3.f3
 refine Zz results144 rfl ?_
 exact ⟨_,_,hs.weak hs.le (Cj _) (Ea [_,_,_,_] _),rfl,vsN,bw,cw,xN,by simp [hxk]⟩
theorem rblo_ok {G:Ghost} {bb bv cv:Nat} {x0:Value} {z3 z4:Int} {z2:Bool} :
  Ai prog 103 [Vp bb,.agg #[.int .u8 0,.int .u8 0,.int .u8 1,.int .u8 1],Vi 0] G [.blk bb 174 [Vn,(Vs bv 1 cv),Vi 0,Vi 1,.bool z2,Vi z3,Vi z4],.row 137 33 (Vn) 0 [],.row 33 1 (Vs bv 1 cv) 1 [x0],.row 3 1 x0 0 []] fun r G' H'=>∃ vs bz cz xb xe xd A77 c77,Da G' (.slice A77 1 c77) [97]∧H'=[.blk bb 174 [vs,(Vs bz 3 cz),Vi 0,Vi 2,.bool z2,Vi z3,Vi z4],.row 137 33 vs 5 [[Vi 1,Vi 0,Vi 1,Vi 0,Vi 0,Vi 0,Vi 0,Vn,Vf,Vi 0,Vn,Vn,Af 0,Af 0,Af 0,Af 0,Vi 0,Vi 0,Vi 0,Vi 0,Vf,Vn,Vn,Vi 0,Vf,Vi 0,Vi 0,Vi 0,Vi 0,Vn,.string ⟨[].toArray⟩,Vi (-1),Vi (-1)],[Vi 11,Vi 0,Vi 0,Vi 0,Vi 0,Vi 2,Vi 5,Vn,Vf,Vi 0,Vn,Vn,Af 0,Af 0,Af 0,Af 0,Vi 0,Vi 0,Vi 0,Vi 0,Vf,Vn,Vn,Vi 0,Vf,Vi 0,Vi 0,Vi 0,Vi 0,Vn,.string ⟨[].toArray⟩,Vi 1,Vi (-1)],[Vi 3,Vi 1,Vi 2,Vi 3,Vi 0,Vi 0,Vi 0,.slice A77 1 c77,Vf,Vi 0,Vn,Vn,Af 0,Af 0,Af 0,Af 0,Vi 0,Vi 0,Vi 0,Vi 0,Vf,Vn,Vn,Vi 0,Vf,Vi 0,Vi 0,Vi 0,Vi 0,Vn,.string ⟨[].toArray⟩,Vi (-1),Vi 2],[Vi 12,Vi 0,Vi 0,Vi 0,Vi 0,Vi 0,Vi 0,Vn,Vf,Vi 0,Vn,Vn,Af 0,Af 0,Af 0,Af 0,Vi 0,Vi 0,Vi 0,Vi 0,Vf,Vn,Vn,Vi 0,Vf,Vi 0,Vi 0,Vi 0,Vi 0,Vn,.string ⟨[].toArray⟩,Vi (-1),Vi (-1)],[Vi 1,Vi 3,Vi 1,Vi 0,Vi 0,Vi 0,Vi 0,Vn,Vf,Vi 0,Vn,Vn,Af 0,Af 0,Af 0,Af 0,Vi 0,Vi 0,Vi 0,Vi 0,Vf,Vn,Vn,Vi 0,Vf,Vi 0,Vi 0,Vi 0,Vi 0,Vn,.string ⟨[].toArray⟩,Vi (-1),Vi (-1)]].flatten,.row 33 1 (Vs bz 3 cz) 3 [xb,xe,xd],.row 3 1 xb 2 ([0,1].map Co),.row 3 1 xe 2 ([2,4].map Co),.row 3 1 xd 1 ([3].map Co)]:=by
 refine Ai.of_T [(0,_),(1,_),(2,_)] func103 rfl ntmps103 sM rfl fun w0 hs=>?_
 have hM0:=hs.feetLt
 refine Wt 2 [] hs rfl<|O_s (Sb hs rfl fun b4 _ hs=>Wp 4 [0] hs rfl<|O_s (Sc (fL (z1:=1) (z1':=2) dC dC rfl) hs.f1 rfl fun v1 G' H' _ hR hG15 hs=>?_))
 obtain ⟨rfl,rfl⟩:=hR
 replace hs:=hs.n rfl
 refine Wp 5 [0] hs rfl<|O_s (Sc (fL (z1:=2) (z1':=3) dC dC rfl) hs rfl fun v2 G' H' _ hR hG17 hs=>?_)
 obtain ⟨rfl,rfl⟩:=hR
 replace hs:=hs.n rfl
 refine Wp 5 [0] hs rfl<|O_s (Sc (fL (z1:=3) (z1':=4) dC dC rfl) hs rfl fun v3 G' H' _ hR hG19 hs=>?_)
 obtain ⟨rfl,rfl⟩:=hR
 replace hs:=hs.n rfl
 refine Wp 7 [0] hs rfl<|Zy hs (Ba zeroValue137 rfl Fw rfl (cs:=[_,_,_,_,_,_,_,_,_,_,_,_,_,_,_,_,_,_,_,_,_,_,_,_,_,_,_,_,_,_,_,_,_]) rfl<|O_s (Sc (Pn (k:=1) (j:=0) (n:=0) (m:=0) (l:=[]) (css:=[]) (xs:=[x0]) dC rfl rfl dC dC rfl) hs.f4.f4.f4.f3 rfl fun v4 G' H' _ hR hG24 hs=>?_))
 obtain ⟨vs1,xa,rfl⟩:=hR
 replace hs:=hs.n rfl
 refine Wp 2 [0] hs rfl<|Bb [0,1,2,3,4,5,6,7,8,9,10,11,12,13,14,15,16,17] hs kR ?_
 replace hs:=hs.drew
 refine Xr [0,1] [2,4] hs rfl<|Xt 2 hs rfl (Dl underlying5 underlying3 (c:=1) rfl dC<|Xt 3 hs rfl (Es (c:=1) rfl rfl dC dC dC<|Xt 4 hs rfl (Ef (c:=(2)) rfl rfl dC dC<|Xr [5,6] [3,4] hs rfl<|Xt 7 hs rfl (Dl underlying5 underlying3 (c:=1) rfl dC<|Xt 8 hs rfl (Es (c:=1) rfl rfl dC dC dC<|Xt 9 hs rfl (Ef (c:=(5)) rfl rfl dC dC<|Xr [10] [] hs rfl<|Xt 11 hs rfl (Fm rfl<|Xr [12,13,14,15] [0,1,0] hs rfl<|Xt 16 hs rfl (Ba zeroValue137 rfl Fw rfl (cs:=[_,_,_,_,_,_,_,_,_,_,_,_,_,_,_,_,_,_,_,_,_,_,_,_,_,_,_,_,_,_,_,_,_]) rfl ?_))))))))
 have hle:=hs.le
 refine Xo 17 rfl (Sa hs zeroValue137 rfl fun b9 _ hs=>Am hs hle (Cj _) (List.sublist_cons_self _ _)<|Xn 18 rfl (Sg hs rfl (rfl) fun _ hs=>Xe (Zk [0,6,7,8,9] rfl<|Wu 4 [0] hs rfl<|O_s (Sc (Pn (k:=1) (j:=0) (n:=1) (m:=1) (l:=[0]) (css:=[[Vi 1,Vi 0,Vi 1,Vi 0,Vi 0,Vi 0,Vi 0,Vn,Vf,Vi 0,Vn,Vn,Af 0,Af 0,Af 0,Af 0,Vi 0,Vi 0,Vi 0,Vi 0,Vf,Vn,Vn,Vi 0,Vf,Vi 0,Vi 0,Vi 0,Vi 0,Vn,.string ⟨[].toArray⟩,Vi (-1),Vi (-1)]]) (xs:=[xa]) dC rfl rfl dC dC rfl) hs.f4.f4.f4.f4 rfl fun v5 G' H' _ hR hG44 hs=>?_))))
 obtain ⟨vs2,xb,rfl⟩:=hR
 replace hs:=hs.n rfl
 refine Wp 5 [0] hs rfl<|Zy hs (Fm rfl<|Wp 3 [0,1,0] hs rfl<|O_s (Se hs zeroValue3 rfl fun v6 _ hs shl=>?_))
 obtain ⟨bl51,rfl⟩:=shl
 refine O_s (Oe hs hM0 underlying41 sizeOf33 zeroValue33 rfl rfl dC dC rfl (cs:=[_]) rfl rfl fun v7 _ _ hG52 hl52 hs =>O_s (Bf hs.f3 underlying41 bY rfl dC rfl rfl (hl52) (Fh rfl) oM oM fun v8 _ hs =>Zy hs (Fm rfl<|Wp 2 [0,1] hs rfl<|O_n (Sd hs.f2 rfl (hs.f2.rowOne 1 rfl) fun _ hs=>Wp 1 [0] hs rfl ?_))))
 obtain ⟨bw,cw,rfl,_⟩:=hs.rowForm 1 rfl dC
 refine Wu 3 [] hs rfl<|Zy hs (Fm rfl<|Wp 9 [2,0,6,0,6,7,8,9,10,31,5] hs rfl<|Zy hs (Fm rfl<|Wp 1 [2] hs rfl<|O_n (Sd hs rfl rfl fun _ hs=>Wp 3 [0] hs rfl<|Zy hs (Ba zeroValue137 rfl Fw rfl (cs:=[_,_,_,_,_,_,_,_,_,_,_,_,_,_,_,_,_,_,_,_,_,_,_,_,_,_,_,_,_,_,_,_,_]) rfl<|O_s (Sa hs zeroValue137 rfl fun b11 _ hs=>O_n (Sg hs rfl (rfl) fun _ hs=>Wp 4 [0] hs rfl<|Zy hs (Fm rfl<|Wp 3 [0,0,1] hs rfl<|Zy hs (Du 4 rfl underlying100 rfl hs<|Wp 8 [0] hs rfl<|O_s (Oe hs hM0 underlying29 sizeOf5 zeroValue5 rfl rfl dC dC rfl (cs:=[_]) rfl rfl fun v9 _ _ hG77 hl77 hs=>?_)))))))))
 obtain ⟨A77,c77,rfl,_⟩:=id hl77
 refine Zy hs (Ba zeroValue137 rfl Fw rfl (cs:=[_,_,_,_,_,_,_,_,_,_,_,_,_,_,_,_,_,_,_,_,_,_,_,_,_,_,_,_,_,_,_,_,_]) rfl<|O_s (Sc (Pn (k:=2) (j:=1) (n:=2) (m:=0) (l:=[]) (css:=[[Vi 1,Vi 0,Vi 1,Vi 0,Vi 0,Vi 0,Vi 0,Vn,Vf,Vi 0,Vn,Vn,Af 0,Af 0,Af 0,Af 0,Vi 0,Vi 0,Vi 0,Vi 0,Vf,Vn,Vn,Vi 0,Vf,Vi 0,Vi 0,Vi 0,Vi 0,Vn,.string ⟨[].toArray⟩,Vi (-1),Vi (-1)],[Vi 11,Vi 0,Vi 0,Vi 0,Vi 0,Vi 2,Vi 5,Vn,Vf,Vi 0,Vn,Vn,Af 0,Af 0,Af 0,Af 0,Vi 0,Vi 0,Vi 0,Vi 0,Vf,Vn,Vn,Vi 0,Vf,Vi 0,Vi 0,Vi 0,Vi 0,Vn,.string ⟨[].toArray⟩,Vi 1,Vi (-1)]]) (xs:=[xb,Vs bl51 0 0]) dC rfl rfl dC dC rfl) hs.f3.f3.f4.f4 rfl fun v10 G' H' _ hR hG79 hs=>?_))
 obtain ⟨vs3,xc,rfl⟩:=hR
 replace hs:=hs.n rfl
 replace hl77:=hl77.mono hG79
 refine Wp 5 [7,0,6,7,8,10,11,12,4] hs rfl<|O_s (Sc (rbsu_ok (k:=2) (j:=1) (n:=3) (css:=[[Vi 1,Vi 0,Vi 1,Vi 0,Vi 0,Vi 0,Vi 0,Vn,Vf,Vi 0,Vn,Vn,Af 0,Af 0,Af 0,Af 0,Vi 0,Vi 0,Vi 0,Vi 0,Vf,Vn,Vn,Vi 0,Vf,Vi 0,Vi 0,Vi 0,Vi 0,Vn,.string ⟨[].toArray⟩,Vi (-1),Vi (-1)],[Vi 11,Vi 0,Vi 0,Vi 0,Vi 0,Vi 2,Vi 5,Vn,Vf,Vi 0,Vn,Vn,Af 0,Af 0,Af 0,Af 0,Vi 0,Vi 0,Vi 0,Vi 0,Vf,Vn,Vn,Vi 0,Vf,Vi 0,Vi 0,Vi 0,Vi 0,Vn,.string ⟨[].toArray⟩,Vi 1,Vi (-1)],[Vi 3,Vi 1,Vi 2,Vi 3,Vi 0,Vi 0,Vi 0,.slice A77 1 c77,Vf,Vi 0,Vn,Vn,Af 0,Af 0,Af 0,Af 0,Vi 0,Vi 0,Vi 0,Vi 0,Vf,Vn,Vn,Vi 0,Vf,Vi 0,Vi 0,Vi 0,Vi 0,Vn,.string ⟨[].toArray⟩,Vi (-1),Vi (-1)]]) (xs:=[xb,xc]) dC rfl dC rfl) hs.f2.f2.f2 rfl fun v11 G' H' _ hR hG82 hs=>?_)
 obtain ⟨rfl,vs4,bz,cz,xd,rfl⟩:=hR
 replace hs:=hs.n rfl
 replace hl77:=hl77.mono hG82
 refine Wp 2 [0] hs rfl ?_
 obtain ⟨bs,cs,rfl,_⟩:=hs.rowForm 1 rfl dC
 refine Wu 3 [] hs rfl<|Zy hs (Fm rfl<|Wp 5 [0,0,0] hs rfl<|Zy hs (Dg (2) underlying100 sizeOf137 rfl rfl rfl oM<|Zy hs (Yf (2 * 33+32) rfl<|O_n (Lq hs.f1 sizeOf3 rfl rfl rfl oM fun _ hs=>?_))))
 replace hs:St _ _ (.row _ _ _ _ (List.set (List.flatten [[Vi 1,Vi 0,Vi 1,Vi 0,Vi 0,Vi 0,Vi 0,Vn,Vf,Vi 0,Vn,Vn,Af 0,Af 0,Af 0,Af 0,Vi 0,Vi 0,Vi 0,Vi 0,Vf,Vn,Vn,Vi 0,Vf,Vi 0,Vi 0,Vi 0,Vi 0,Vn,.string ⟨[].toArray⟩,Vi (-1),Vi (-1)],[Vi 11,Vi 0,Vi 0,Vi 0,Vi 0,Vi 2,Vi 5,Vn,Vf,Vi 0,Vn,Vn,Af 0,Af 0,Af 0,Af 0,Vi 0,Vi 0,Vi 0,Vi 0,Vf,Vn,Vn,Vi 0,Vf,Vi 0,Vi 0,Vi 0,Vi 0,Vn,.string ⟨[].toArray⟩,Vi 1,Vi (-1)],[Vi 3,Vi 1,Vi 2,Vi 3,Vi 0,Vi 0,Vi 0,.slice A77 1 c77,Vf,Vi 0,Vn,Vn,Af 0,Af 0,Af 0,Af 0,Vi 0,Vi 0,Vi 0,Vi 0,Vf,Vn,Vn,Vi 0,Vf,Vi 0,Vi 0,Vi 0,Vi 0,Vn,.string ⟨[].toArray⟩,Vi (-1),Vi (-1)],[Vi 12,Vi 0,Vi 0,Vi 0,Vi 0,Vi 0,Vi 0,Vn,Vf,Vi 0,Vn,Vn,Af 0,Af 0,Af 0,Af 0,Vi 0,Vi 0,Vi 0,Vi 0,Vf,Vn,Vn,Vi 0,Vf,Vi 0,Vi 0,Vi 0,Vi 0,Vn,.string ⟨[].toArray⟩,Vi (-1),Vi (-1)]]) (2*33+32) _)::_) _:=hs
 rw [Mb (k:=33) (css:=[[Vi 1,Vi 0,Vi 1,Vi 0,Vi 0,Vi 0,Vi 0,Vn,Vf,Vi 0,Vn,Vn,Af 0,Af 0,Af 0,Af 0,Vi 0,Vi 0,Vi 0,Vi 0,Vf,Vn,Vn,Vi 0,Vf,Vi 0,Vi 0,Vi 0,Vi 0,Vn,.string ⟨[].toArray⟩,Vi (-1),Vi (-1)],[Vi 11,Vi 0,Vi 0,Vi 0,Vi 0,Vi 2,Vi 5,Vn,Vf,Vi 0,Vn,Vn,Af 0,Af 0,Af 0,Af 0,Vi 0,Vi 0,Vi 0,Vi 0,Vf,Vn,Vn,Vi 0,Vf,Vi 0,Vi 0,Vi 0,Vi 0,Vn,.string ⟨[].toArray⟩,Vi 1,Vi (-1)],[Vi 3,Vi 1,Vi 2,Vi 3,Vi 0,Vi 0,Vi 0,.slice A77 1 c77,Vf,Vi 0,Vn,Vn,Af 0,Af 0,Af 0,Af 0,Vi 0,Vi 0,Vi 0,Vi 0,Vf,Vn,Vn,Vi 0,Vf,Vi 0,Vi 0,Vi 0,Vi 0,Vn,.string ⟨[].toArray⟩,Vi (-1),Vi (-1)],[Vi 12,Vi 0,Vi 0,Vi 0,Vi 0,Vi 0,Vi 0,Vn,Vf,Vi 0,Vn,Vn,Af 0,Af 0,Af 0,Af 0,Vi 0,Vi 0,Vi 0,Vi 0,Vf,Vn,Vn,Vi 0,Vf,Vi 0,Vi 0,Vi 0,Vi 0,Vn,.string ⟨[].toArray⟩,Vi (-1),Vi (-1)]]) (i:=2) (j:=32) (c:=[Vi 3,Vi 1,Vi 2,Vi 3,Vi 0,Vi 0,Vi 0,.slice A77 1 c77,Vf,Vi 0,Vn,Vn,Af 0,Af 0,Af 0,Af 0,Vi 0,Vi 0,Vi 0,Vi 0,Vf,Vn,Vn,Vi 0,Vf,Vi 0,Vi 0,Vi 0,Vi 0,Vn,.string ⟨[].toArray⟩,Vi (-1),Vi (-1)]) (Fj rfl) rfl dC] at hs
 refine Wp 6 [0] hs rfl<|Zy hs (Ba zeroValue137 rfl Fw rfl (cs:=[_,_,_,_,_,_,_,_,_,_,_,_,_,_,_,_,_,_,_,_,_,_,_,_,_,_,_,_,_,_,_,_,_]) rfl<|O_s (Sc (Pn (k:=3) (j:=1) (n:=4) (m:=1) (l:=[2]) (css:=[[Vi 1,Vi 0,Vi 1,Vi 0,Vi 0,Vi 0,Vi 0,Vn,Vf,Vi 0,Vn,Vn,Af 0,Af 0,Af 0,Af 0,Vi 0,Vi 0,Vi 0,Vi 0,Vf,Vn,Vn,Vi 0,Vf,Vi 0,Vi 0,Vi 0,Vi 0,Vn,.string ⟨[].toArray⟩,Vi (-1),Vi (-1)],[Vi 11,Vi 0,Vi 0,Vi 0,Vi 0,Vi 2,Vi 5,Vn,Vf,Vi 0,Vn,Vn,Af 0,Af 0,Af 0,Af 0,Vi 0,Vi 0,Vi 0,Vi 0,Vf,Vn,Vn,Vi 0,Vf,Vi 0,Vi 0,Vi 0,Vi 0,Vn,.string ⟨[].toArray⟩,Vi 1,Vi (-1)],[Vi 3,Vi 1,Vi 2,Vi 3,Vi 0,Vi 0,Vi 0,.slice A77 1 c77,Vf,Vi 0,Vn,Vn,Af 0,Af 0,Af 0,Af 0,Vi 0,Vi 0,Vi 0,Vi 0,Vf,Vn,Vn,Vi 0,Vf,Vi 0,Vi 0,Vi 0,Vi 0,Vn,.string ⟨[].toArray⟩,Vi (-1),Vi 2],[Vi 12,Vi 0,Vi 0,Vi 0,Vi 0,Vi 0,Vi 0,Vn,Vf,Vi 0,Vn,Vn,Af 0,Af 0,Af 0,Af 0,Vi 0,Vi 0,Vi 0,Vi 0,Vf,Vn,Vn,Vi 0,Vf,Vi 0,Vi 0,Vi 0,Vi 0,Vn,.string ⟨[].toArray⟩,Vi (-1),Vi (-1)]]) (xs:=[xb,xc,xd]) dC rfl rfl dC dC rfl) hs.f4.f3.f2.f3 rfl fun v12 G' H' _ hR hG96 hs=>?_))
 obtain ⟨vs5,xe,rfl⟩:=hR
 replace hs:=hs.n rfl
 replace hl77:=hl77.mono hG96
 refine Wp 5 [3,0,7,10] hs rfl<|Zy hs (Fm rfl<|Wp 1 [2] hs rfl<|O_n (Sd hs rfl rfl fun _ hs=>Wp 4 [0] hs rfl<|Zy hs (Fm rfl<|Wp 1 [3] hs rfl<|O_n (Sd hs rfl rfl fun _ hs=>?_))))
 have hs:=hs.f4.f4.f6.f5.f5.f5
 refine Cm (Ff (vs:=[]) results103 rfl trivial ?_)
 try dsimp only [tup]
 exact ⟨_,_,hs.weak hs.le (Cj _) (Ea [_,_,_,_,_,_] _),vs5,bz,cz,xb,xe,xd,A77,c77,hl77,rfl⟩
theorem Ov:places prog 145=some [(0,1),(1,1)]:=by kernel_rfl
theorem PL174:places prog 174=some [(0,2),(2,1),(3,1),(4,1),(5,1),(6,1)]:=by kernel_rfl
theorem PL177:places prog 177=some [(0,1),(1,1),(2,1),(3,1)]:=by kernel_rfl
def looM:List Bm:=[{ Bg 1 with y:=1 },{ Bg 11 with i:=2,j:=5,thn:=1 },{ Bg 3 with y:=2,z:=3,x:=1,b:=[97],els:=2 },Bg 12,{ Bg 1 with y:=1,x:=3 },Mv [120] 1]
theorem loo_acc {G:Ghost} {A77:Option Addr} {c77:Nat} (h:Da G (.slice A77 1 c77) [97]):Ha G [[Vi 1,Vi 0,Vi 1,Vi 0,Vi 0,Vi 0,Vi 0,Vn,Vf,Vi 0,Vn,Vn,Af 0,Af 0,Af 0,Af 0,Vi 0,Vi 0,Vi 0,Vi 0,Vf,Vn,Vn,Vi 0,Vf,Vi 0,Vi 0,Vi 0,Vi 0,Vn,.string ⟨[].toArray⟩,Vi (-1),Vi (-1)],[Vi 11,Vi 0,Vi 0,Vi 0,Vi 0,Vi 2,Vi 5,Vn,Vf,Vi 0,Vn,Vn,Af 0,Af 0,Af 0,Af 0,Vi 0,Vi 0,Vi 0,Vi 0,Vf,Vn,Vn,Vi 0,Vf,Vi 0,Vi 0,Vi 0,Vi 0,Vn,.string ⟨[].toArray⟩,Vi 1,Vi (-1)],[Vi 3,Vi 1,Vi 2,Vi 3,Vi 0,Vi 0,Vi 0,.slice A77 1 c77,Vf,Vi 0,Vn,Vn,Af 0,Af 0,Af 0,Af 0,Vi 0,Vi 0,Vi 0,Vi 0,Vf,Vn,Vn,Vi 0,Vf,Vi 0,Vi 0,Vi 0,Vi 0,Vn,.string ⟨[].toArray⟩,Vi (-1),Vi 2],[Vi 12,Vi 0,Vi 0,Vi 0,Vi 0,Vi 0,Vi 0,Vn,Vf,Vi 0,Vn,Vn,Af 0,Af 0,Af 0,Af 0,Vi 0,Vi 0,Vi 0,Vi 0,Vf,Vn,Vn,Vi 0,Vf,Vi 0,Vi 0,Vi 0,Vi 0,Vn,.string ⟨[].toArray⟩,Vi (-1),Vi (-1)],[Vi 1,Vi 3,Vi 1,Vi 0,Vi 0,Vi 0,Vi 0,Vn,Vf,Vi 0,Vn,Vn,Af 0,Af 0,Af 0,Af 0,Vi 0,Vi 0,Vi 0,Vi 0,Vf,Vn,Vn,Vi 0,Vf,Vi 0,Vi 0,Vi 0,Vi 0,Vn,.string ⟨[].toArray⟩,Vi (-1),Vi (-1)],[Vi 13,Vi 1,Vi 0,Vi 0,Vi 0,Vi 0,Vi 0,Vn,Vf,Vi 0,Vn,Vn,Af 0,Af 0,Af 0,Af 0,Vi 0,Vi 0,Vi 0,Vi 0,Vf,Vn,Vn,Vi 0,Vf,Vi 0,Vi 0,Vi 0,Vi 0,Vn,.string ⟨#[120]⟩,Vi (-1),Vi (-1)]] looM :=
  ⟨⟨Gw.plain (s:={ Bg 1 with y:=1 }) rfl rfl rfl rfl rfl rfl,Gw.plain (s:={ Bg 11 with i:=2,j:=5,thn:=1 }) rfl rfl rfl rfl rfl rfl,⟨_,_,_,_,_,_,rfl,⟨h,fun e=>by cases e⟩,⟨Sl.nil _ _,fun _=>rfl⟩,⟨Sl.nil _ _,fun _=>rfl⟩,⟨Be.nil,fun _=>rfl⟩,⟨Sl.nil _ _,fun _=>rfl⟩,⟨Be.nil,fun _=>rfl⟩⟩,Gw.plain (s:=Bg 12) rfl rfl rfl rfl rfl rfl,Gw.plain (s:={ Bg 1 with y:=1,x:=3 }) rfl rfl rfl rfl rfl rfl,Gw.plain (s:=(Mv [120] 1)) rfl rfl rfl rfl rfl rfl,trivial⟩,Fj rfl⟩
theorem rloo_ok {G:Ghost} :
  Ai prog 78 [] G [] fun r G' H'=>∃ vs vb es us,r=.agg #[vs,vb]∧Ha G' es looM∧Ej G' us [[0,1,5],[2,4],[3]]∧H'=[.row 137 33 vs 6 es.flatten,.row 33 1 vb 3 us]:=by
 refine Ai.of_T [] func78 rfl ntmps78 sM rfl fun w0 hs =>Wt 2 [] hs rfl<|O_s (Sa hs zeroValue102 rfl fun b0 _ hs=>Wp 3 [0] hs rfl<|O_s (Se hs zeroValue3 rfl fun v1 _ hs shl=>?_))
 obtain ⟨bl2,rfl⟩:=shl
 refine O_s (Se hs zeroValue33 rfl fun v2 _ hs shl=>?_)
 obtain ⟨bl3,rfl⟩:=shl
 refine Zy hs (Ba zeroValue102 rfl PL102 rfl (cs:=[_,_]) rfl<|Zy hs (Ba zeroValue174 rfl PL174 rfl (cs:=[_,_,_,_,_,_,_]) rfl<|O_s (Sa hs zeroValue174 rfl fun b1 _ hs=>O_n (Sg hs rfl (rfl) fun _ hs=>Wp 1 [0] hs rfl ?_))))
 have hs:=hs.nilRow 137 33
 refine Wu 2 [] hs rfl<|Zy hs (Ba zeroValue177 rfl PL177 rfl (cs:=[_,_,_,_]) rfl<|O_s (Sc (rblo_ok (bb:=b1) (bv:=bl3) (cv:=1)) hs.f3.f3.f2.f3 rfl fun v3 G' H' _ hR hG7 hs=>?_))
 obtain ⟨vs5,bz,cz,xb,xe,xd,A77,c77,hl77,rfl⟩:=hR
 replace hs:=hs.n rfl
 refine Wp 3 [0] hs rfl<|O_s (Sc (jR (x:=1)) hs rfl fun v4 G' H' _ hR hG8 hs=>?_)
 obtain ⟨rfl,rfl⟩:=hR
 replace hs:=hs.n rfl
 replace hl77:=hl77.mono hG8
 refine O_s (Sc (Pn (k:=3) (j:=0) (n:=5) (m:=2) (l:=[0,1]) (css:=[[Vi 1,Vi 0,Vi 1,Vi 0,Vi 0,Vi 0,Vi 0,Vn,Vf,Vi 0,Vn,Vn,Af 0,Af 0,Af 0,Af 0,Vi 0,Vi 0,Vi 0,Vi 0,Vf,Vn,Vn,Vi 0,Vf,Vi 0,Vi 0,Vi 0,Vi 0,Vn,.string ⟨[].toArray⟩,Vi (-1),Vi (-1)],[Vi 11,Vi 0,Vi 0,Vi 0,Vi 0,Vi 2,Vi 5,Vn,Vf,Vi 0,Vn,Vn,Af 0,Af 0,Af 0,Af 0,Vi 0,Vi 0,Vi 0,Vi 0,Vf,Vn,Vn,Vi 0,Vf,Vi 0,Vi 0,Vi 0,Vi 0,Vn,.string ⟨[].toArray⟩,Vi 1,Vi (-1)],[Vi 3,Vi 1,Vi 2,Vi 3,Vi 0,Vi 0,Vi 0,.slice A77 1 c77,Vf,Vi 0,Vn,Vn,Af 0,Af 0,Af 0,Af 0,Vi 0,Vi 0,Vi 0,Vi 0,Vf,Vn,Vn,Vi 0,Vf,Vi 0,Vi 0,Vi 0,Vi 0,Vn,.string ⟨[].toArray⟩,Vi (-1),Vi 2],[Vi 12,Vi 0,Vi 0,Vi 0,Vi 0,Vi 0,Vi 0,Vn,Vf,Vi 0,Vn,Vn,Af 0,Af 0,Af 0,Af 0,Vi 0,Vi 0,Vi 0,Vi 0,Vf,Vn,Vn,Vi 0,Vf,Vi 0,Vi 0,Vi 0,Vi 0,Vn,.string ⟨[].toArray⟩,Vi (-1),Vi (-1)],[Vi 1,Vi 3,Vi 1,Vi 0,Vi 0,Vi 0,Vi 0,Vn,Vf,Vi 0,Vn,Vn,Af 0,Af 0,Af 0,Af 0,Vi 0,Vi 0,Vi 0,Vi 0,Vf,Vn,Vn,Vi 0,Vf,Vi 0,Vi 0,Vi 0,Vi 0,Vn,.string ⟨[].toArray⟩,Vi (-1),Vi (-1)]]) (xs:=[xb,xe,xd]) dC rfl rfl dC dC rfl) hs.f3.f3.f3.f3 rfl fun v5 G' H' _ hR hG9 hs=>?_)
 obtain ⟨vs6,xf,rfl⟩:=hR
 replace hs:=hs.n rfl
 replace hl77:=hl77.mono hG9
 refine Wp 5 [0,0,0] hs rfl<|O_n (Sg hs.f6 rfl (by simp only [List.all_cons,List.all_nil,hs.f6.rowOne 2 rfl,hs.f6.rowOne 3 rfl];rfl) fun _ hs=>Wp 1 [0] hs rfl<|Ah ?_)
 have hs:=hs.f4
 obtain ⟨_,hG_hf1,hf1,hs⟩:=hs.fixRow noM
 replace hl77:=hl77.mono hG_hf1
 have hs:=hs.f4
 obtain ⟨_,hG_hf2,hf2,hs⟩:=hs.fixRow noM
 replace hl77:=hl77.mono hG_hf2
 replace hf1:=hf1.mono hG_hf2
 have hs:=hs.f4
 obtain ⟨_,hG_hf3,hf3,hs⟩:=hs.fixRow noM
 replace hl77:=hl77.mono hG_hf3
 replace hf1:=hf1.mono hG_hf3
 replace hf2:=hf2.mono hG_hf3
 have hs:=hs.f3.f3
 refine Zz results78 (Rb 2 hs rfl rF) ?_
 exact ⟨_,_,hs.weak hs.le (Cj _) (Ea [_,_] _),vs6,_,[[Vi 1,Vi 0,Vi 1,Vi 0,Vi 0,Vi 0,Vi 0,Vn,Vf,Vi 0,Vn,Vn,Af 0,Af 0,Af 0,Af 0,Vi 0,Vi 0,Vi 0,Vi 0,Vf,Vn,Vn,Vi 0,Vf,Vi 0,Vi 0,Vi 0,Vi 0,Vn,.string ⟨[].toArray⟩,Vi (-1),Vi (-1)],[Vi 11,Vi 0,Vi 0,Vi 0,Vi 0,Vi 2,Vi 5,Vn,Vf,Vi 0,Vn,Vn,Af 0,Af 0,Af 0,Af 0,Vi 0,Vi 0,Vi 0,Vi 0,Vf,Vn,Vn,Vi 0,Vf,Vi 0,Vi 0,Vi 0,Vi 0,Vn,.string ⟨[].toArray⟩,Vi 1,Vi (-1)],[Vi 3,Vi 1,Vi 2,Vi 3,Vi 0,Vi 0,Vi 0,.slice A77 1 c77,Vf,Vi 0,Vn,Vn,Af 0,Af 0,Af 0,Af 0,Vi 0,Vi 0,Vi 0,Vi 0,Vf,Vn,Vn,Vi 0,Vf,Vi 0,Vi 0,Vi 0,Vi 0,Vn,.string ⟨[].toArray⟩,Vi (-1),Vi 2],[Vi 12,Vi 0,Vi 0,Vi 0,Vi 0,Vi 0,Vi 0,Vn,Vf,Vi 0,Vn,Vn,Af 0,Af 0,Af 0,Af 0,Vi 0,Vi 0,Vi 0,Vi 0,Vf,Vn,Vn,Vi 0,Vf,Vi 0,Vi 0,Vi 0,Vi 0,Vn,.string ⟨[].toArray⟩,Vi (-1),Vi (-1)],[Vi 1,Vi 3,Vi 1,Vi 0,Vi 0,Vi 0,Vi 0,Vn,Vf,Vi 0,Vn,Vn,Af 0,Af 0,Af 0,Af 0,Vi 0,Vi 0,Vi 0,Vi 0,Vf,Vn,Vn,Vi 0,Vf,Vi 0,Vi 0,Vi 0,Vi 0,Vn,.string ⟨[].toArray⟩,Vi (-1),Vi (-1)],[Vi 13,Vi 1,Vi 0,Vi 0,Vi 0,Vi 0,Vi 0,Vn,Vf,Vi 0,Vn,Vn,Af 0,Af 0,Af 0,Af 0,Vi 0,Vi 0,Vi 0,Vi 0,Vf,Vn,Vn,Vi 0,Vf,Vi 0,Vi 0,Vi 0,Vi 0,Vn,.string ⟨#[120]⟩,Vi (-1),Vi (-1)]],[xf,xe,xd],rfl,loo_acc hl77,⟨hf1,hf2,hf3,trivial⟩,rfl⟩
def Di:Nat→By
  | 0=>⟨[Mv [120] 0],[[0]]⟩
  | 1=>⟨[{ Bg 3 with y:=1,z:=2,b:=[97],els:=1 },Mv [120] 1,Mv [121] 2,mW],[[0,1,2],[3]]⟩
  | 2=>⟨[{ Bg 3 with y:=1,z:=2,b:=[97],last:=true,els:=1 },Mv [120] 1,Mv [121] 2,mW],[[0,1,2],[3]]⟩
  | 3=>⟨[{ Bg 7 with y:=1,c1:=8589934592 },Mv [120] 1],[[0,1]]⟩
  | 4=>⟨[{ Bg 6 with y:=1,op:=⟨6,[97],[98]⟩ },Mv [120] 1],[[0,1]]⟩
  | 5=>⟨[{ Bg 6 with y:=1,op:=⟨5,[98],[]⟩ },Mv [120] 1],[[0,1]]⟩
  | 6=>⟨choM ⟨1,false,0,0,0,0,Ec rK⟩,[[0],[1],[2]]⟩
  | 7=>⟨[{ Bg 4 with y:=1,i:=0,j:=1 },Mv [120] 1],[[0,1]]⟩
  | 8=>⟨[{ Bg 4 with y:=1,i:=1,j:=-1 },Mv [120] 1],[[0,1]]⟩
  | 9=>⟨looM,[[0,1,5],[2,4],[3]]⟩
  | 10=>⟨[{ Bg 9 with p:=[⟨Ec rK,false⟩,⟨Ec Pt,false⟩],ys:=[1,2],els:=1 },Mv [120] 1,mW],[[0,1],[2]]⟩
  | 11=>⟨[{ Bg 9 with p:=[⟨Ec Pt,true⟩,⟨Ec clB,false⟩],ys:=[1,2],els:=1 },Mv [120] 1,mW],[[0,1],[2]]⟩
  | 12=>⟨choM ⟨3,false,0,0,0,2,[]⟩,[[0],[1],[2]]⟩
  | _=>⟨[{ Bg 8 with rule:=⟨16,2,11,2,false⟩,els:=1 },Mv [120] 0,mW],[[0,1],[2]]⟩
theorem sY {G:Ghost}:Ai prog 74 [Vi 1] G [] fun r _ H'=>H'=[]∧r=.agg #[Af 0,Af 8589934592,Af 0,Af 0]:=jQ.mono fun r G' H' _ h=>⟨h.1,h.2.trans rfl⟩
theorem dV {G:Ghost} {u:Value} {l:List Nat} (h:Cc G u l):Ej G [u] [l]:=⟨h,trivial⟩
theorem Jw {G:Ghost} {v a b:Value} {x y:List Ei} {p q:Bool} (h:Sl G v 2 2 [a,.bool p,b,.bool q]) (ha:Rx G a x) (hb:Rx G b y):vG G v [⟨x,p⟩,⟨y,q⟩] :=
  Be.ofSl (cs:=[[a,.bool p],[b,.bool q]]) h rfl rfl ⟨⟨_,rfl,ha⟩,⟨_,rfl,hb⟩,trivial⟩ Z12
theorem fM {G:Ghost} {k:UInt8} :
  Ai prog 52 [.int .u8 (k.toNat:Int)] G [] fun r G' H'=>H'=[]∧∃ vs vb,r=.agg #[vs,vb]∧pM G' [vs,vb] (Di (k.toNat % 14)):=by
 have hk:=k.toNat_lt
 refine Ai.of_T [(0,_)] func52 rfl ntmps52 sM rfl fun w0 hs =>Wt 2 [] hs rfl<|O_s (Sa hs zeroValue102 rfl fun b2 _ hs=>Wp 3 [0] hs rfl<|Zy hs (Ba zeroValue137 rfl Fw rfl (cs:=[_,_,_,_,_,_,_,_,_,_,_,_,_,_,_,_,_,_,_,_,_,_,_,_,_,_,_,_,_,_,_,_,_]) rfl<|O_s (Sa hs zeroValue137 rfl fun b3 _ hs=>O_n (Sg hs rfl (rfl) fun _ hs=>Wp 3 [0] hs rfl<|Zy hs (Ba zeroValue137 rfl Fw rfl (cs:=[_,_,_,_,_,_,_,_,_,_,_,_,_,_,_,_,_,_,_,_,_,_,_,_,_,_,_,_,_,_,_,_,_]) rfl<|O_s (Sa hs zeroValue137 rfl fun b4 _ hs=>O_n (Sg hs rfl (rfl) fun _ hs=>Wp 3 [0] hs rfl<|Zy hs (Ba zeroValue137 rfl Fw rfl (cs:=[_,_,_,_,_,_,_,_,_,_,_,_,_,_,_,_,_,_,_,_,_,_,_,_,_,_,_,_,_,_,_,_,_]) rfl<|O_s (Sa hs zeroValue137 rfl fun b5 _ hs=>O_n (Sg hs rfl (rfl) fun _ hs=>Wp 3 [0] hs rfl<|O_s (Se hs zeroValue5 rfl fun v1 _ hs _=>?_)))))))))))
 have hsN:=hs.fixRow noM
 clear hs
 obtain ⟨_,hG11,hl11,hs⟩:=hsN
 obtain ⟨A11,c11,rfl,_⟩:=id hl11
 refine Zy hs (Ba zeroValue137 rfl Fw rfl (cs:=[_,_,_,_,_,_,_,_,_,_,_,_,_,_,_,_,_,_,_,_,_,_,_,_,_,_,_,_,_,_,_,_,_]) rfl<|O_s (Sa hs zeroValue137 rfl fun b6 _ hs=>O_n (Sg hs rfl (rfl) fun _ hs=>Wp 4 [0,0] hs rfl<|O_s (Sa hs zeroValue137 rfl fun b7 _ hs=>O_n (Sg hs rfl (rfl) fun _ hs=>Wp 4 [0,8] hs rfl<|O_n (Sd hs rfl rfl fun _ hs=>Wp 5 [0] hs rfl<|Zy hs (Es (c:=((k.toNat % 14:Nat):Int)) rfl rfl oM oM oM<|Wp 4 [0] hs rfl<|Zy hs (Yc rfl (fun h18=>?_) fun h18=>?_))))))))
 ·
  refine Wp 6 [0,4] hs rfl<|O_s (Ft hs underlying100 sizeOf137 zeroValue137 kR kR kR rfl (es:=[[_,_,_,_,_,_,_,_,_,_,_,_,_,_,_,_,_,_,_,_,_,_,_,_,_,_,_,_,_,_,_,_,_]]) rfl rfl fun v2 _ hs shl=>?_)
  obtain ⟨bl20,rfl⟩:=shl
  refine O_s (Sc (Ky (b:=bl20) (n:=1) (css:=[[Vi 13,Vi 0,Vi 0,Vi 0,Vi 0,Vi 0,Vi 0,Vn,Vf,Vi 0,Vn,Vn,Af 0,Af 0,Af 0,Af 0,Vi 0,Vi 0,Vi 0,Vi 0,Vf,Vn,Vn,Vi 0,Vf,Vi 0,Vi 0,Vi 0,Vi 0,Vn,.string ⟨#[120]⟩,Vi 0,Vi 0]]) (ss:=[{ Bg 13 with name:=[120],thn:=0,els:=0 }]) rfl dC dC ⟨⟨Gw.plain (s:={ Bg 13 with name:=[120],thn:=0,els:=0 }) rfl rfl rfl rfl rfl rfl,trivial⟩,Fj rfl⟩) hs rfl fun v3 G' H' _ hR hG21 hs=>?_)
  obtain ⟨vs,vb,es,u,rfl,hE,hU,rfl⟩:=hR
  replace hs:=hs.n rfl
  refine O_n (Sg hs.f7 rfl bN fun _ hs=>Wp 1 [1,2] hs rfl<|Ah ?_)
  have hs:=hs.f1
  obtain ⟨_,hG_hfs,hfs,hs⟩:=hs.fixRow noM
  replace hE:=hE.mono hG_hfs
  replace hU:=hU.mono hG_hfs
  have hs:=hs.f1
  obtain ⟨_,hG_hfb,hfb,hs⟩:=hs.fixRow noM
  replace hE:=hE.mono hG_hfb
  replace hU:=hU.mono hG_hfb
  replace hfs:=hfs.mono hG_hfb
  refine Zz results52 (Rb 0 hs rfl rF) ?_
  exact ⟨_,[],hs.done,rfl,vs,vb,rfl,by rw [show k.toNat % 14=0 from by omega];exact Fv (p:=Di 0) hE (dV hU) hfs hfb rfl rfl (fun e=>by cases e) (fun e=>by cases e)⟩
 refine Wp 5 [0] hs rfl<|Zy hs (Yc rfl (fun h23=>?_) fun h23=>?_)
 ·
  refine Wp 8 [8,2,3,4,5,6,7,16,22,1,3,2] hs rfl<|O_s (Ft hs underlying100 sizeOf137 zeroValue137 kR kR kR rfl (es:=[[_,_,_,_,_,_,_,_,_,_,_,_,_,_,_,_,_,_,_,_,_,_,_,_,_,_,_,_,_,_,_,_,_],[_,_,_,_,_,_,_,_,_,_,_,_,_,_,_,_,_,_,_,_,_,_,_,_,_,_,_,_,_,_,_,_,_],[_,_,_,_,_,_,_,_,_,_,_,_,_,_,_,_,_,_,_,_,_,_,_,_,_,_,_,_,_,_,_,_,_]]) rfl rfl fun v4 _ hs shl=>?_)
  obtain ⟨bl27,rfl⟩:=shl
  refine O_s (Sc (Hk (b:=bl27) (n:=3) (css:=[[Vi 3,Vi 0,Vi 1,Vi 2,Vi 0,Vi 0,Vi 0,.slice A11 1 c11,Vf,Vi 0,Vn,Vn,Af 0,Af 0,Af 0,Af 0,Vi 0,Vi 0,Vi 0,Vi 0,Vf,Vn,Vn,Vi 0,Vf,Vi 0,Vi 0,Vi 0,Vi 0,Vn,.string ⟨[].toArray⟩,Vi 0,Vi 0],[Vi 13,Vi 1,Vi 0,Vi 0,Vi 0,Vi 0,Vi 0,Vn,Vf,Vi 0,Vn,Vn,Af 0,Af 0,Af 0,Af 0,Vi 0,Vi 0,Vi 0,Vi 0,Vf,Vn,Vn,Vi 0,Vf,Vi 0,Vi 0,Vi 0,Vi 0,Vn,.string ⟨#[120]⟩,Vi 0,Vi 0],[Vi 13,Vi 2,Vi 0,Vi 0,Vi 0,Vi 0,Vi 0,Vn,Vf,Vi 0,Vn,Vn,Af 0,Af 0,Af 0,Af 0,Vi 0,Vi 0,Vi 0,Vi 0,Vf,Vn,Vn,Vi 0,Vf,Vi 0,Vi 0,Vi 0,Vi 0,Vn,.string ⟨#[121]⟩,Vi 0,Vi 0]]) (ss:=[{ Bg 3 with y:=1,z:=2,b:=[97],thn:=0,els:=0 },{ Bg 13 with name:=[120],x:=1,thn:=0,els:=0 },{ Bg 13 with name:=[121],x:=2,thn:=0,els:=0 }]) rfl dC dC ⟨⟨⟨_,_,_,_,_,_,rfl,⟨hl11,fun e=>by cases e⟩,⟨Sl.nil _ _,fun _=>rfl⟩,⟨Sl.nil _ _,fun _=>rfl⟩,⟨Be.nil,fun _=>rfl⟩,⟨Sl.nil _ _,fun _=>rfl⟩,⟨Be.nil,fun _=>rfl⟩⟩,Gw.plain (s:={ Bg 13 with name:=[120],x:=1,thn:=0,els:=0 }) rfl rfl rfl rfl rfl rfl,Gw.plain (s:={ Bg 13 with name:=[121],x:=2,thn:=0,els:=0 }) rfl rfl rfl rfl rfl rfl,trivial⟩,Fj rfl⟩) hs rfl fun v5 G' H' _ hR hG28 hs=>?_)
  obtain ⟨vs,vb,es,us,rfl,hE,hU,rfl⟩:=hR
  replace hs:=hs.n rfl
  refine O_n (Sg hs.f7 rfl bN fun _ hs=>Wp 1 [0] hs rfl<|Ah ?_)
  have hs:=hs.f1
  obtain ⟨_,hG_hfs,hfs,hs⟩:=hs.fixRow noM
  replace hE:=hE.mono hG_hfs
  replace hU:=hU.mono hG_hfs
  have hs:=hs.f1
  obtain ⟨_,hG_hfb,hfb,hs⟩:=hs.fixRow noM
  replace hE:=hE.mono hG_hfb
  replace hU:=hU.mono hG_hfb
  replace hfs:=hfs.mono hG_hfb
  refine Zz results52 (Rb 0 hs rfl rF) ?_
  exact ⟨_,[],hs.done,rfl,vs,vb,rfl,by rw [show k.toNat % 14=1 from by omega];exact Fv (p:=Di 1) hE hU hfs hfb rfl rfl (fun e=>by cases e) (fun e=>by cases e)⟩
 refine Wp 5 [8,2,3,4,5,6,7,16,22] hs rfl<|Zy hs (Yc rfl (fun h30=>?_) fun h30=>?_)
 ·
  refine Wp 8 [0,0,3,2] hs rfl<|O_s (Ft hs underlying100 sizeOf137 zeroValue137 kR kR kR rfl (es:=[[_,_,_,_,_,_,_,_,_,_,_,_,_,_,_,_,_,_,_,_,_,_,_,_,_,_,_,_,_,_,_,_,_],[_,_,_,_,_,_,_,_,_,_,_,_,_,_,_,_,_,_,_,_,_,_,_,_,_,_,_,_,_,_,_,_,_],[_,_,_,_,_,_,_,_,_,_,_,_,_,_,_,_,_,_,_,_,_,_,_,_,_,_,_,_,_,_,_,_,_]]) rfl rfl fun v6 _ hs shl=>?_)
  obtain ⟨bl34,rfl⟩:=shl
  refine O_s (Sc (Hk (b:=bl34) (n:=3) (css:=[[Vi 3,Vi 0,Vi 1,Vi 2,Vi 0,Vi 0,Vi 0,.slice A11 1 c11,Vt,Vi 0,Vn,Vn,Af 0,Af 0,Af 0,Af 0,Vi 0,Vi 0,Vi 0,Vi 0,Vf,Vn,Vn,Vi 0,Vf,Vi 0,Vi 0,Vi 0,Vi 0,Vn,.string ⟨[].toArray⟩,Vi 0,Vi 0],[Vi 13,Vi 1,Vi 0,Vi 0,Vi 0,Vi 0,Vi 0,Vn,Vf,Vi 0,Vn,Vn,Af 0,Af 0,Af 0,Af 0,Vi 0,Vi 0,Vi 0,Vi 0,Vf,Vn,Vn,Vi 0,Vf,Vi 0,Vi 0,Vi 0,Vi 0,Vn,.string ⟨#[120]⟩,Vi 0,Vi 0],[Vi 13,Vi 2,Vi 0,Vi 0,Vi 0,Vi 0,Vi 0,Vn,Vf,Vi 0,Vn,Vn,Af 0,Af 0,Af 0,Af 0,Vi 0,Vi 0,Vi 0,Vi 0,Vf,Vn,Vn,Vi 0,Vf,Vi 0,Vi 0,Vi 0,Vi 0,Vn,.string ⟨#[121]⟩,Vi 0,Vi 0]]) (ss:=[{ Bg 3 with y:=1,z:=2,b:=[97],last:=true,thn:=0,els:=0 },{ Bg 13 with name:=[120],x:=1,thn:=0,els:=0 },{ Bg 13 with name:=[121],x:=2,thn:=0,els:=0 }]) rfl dC dC ⟨⟨⟨_,_,_,_,_,_,rfl,⟨hl11,fun e=>by cases e⟩,⟨Sl.nil _ _,fun _=>rfl⟩,⟨Sl.nil _ _,fun _=>rfl⟩,⟨Be.nil,fun _=>rfl⟩,⟨Sl.nil _ _,fun _=>rfl⟩,⟨Be.nil,fun _=>rfl⟩⟩,Gw.plain (s:={ Bg 13 with name:=[120],x:=1,thn:=0,els:=0 }) rfl rfl rfl rfl rfl rfl,Gw.plain (s:={ Bg 13 with name:=[121],x:=2,thn:=0,els:=0 }) rfl rfl rfl rfl rfl rfl,trivial⟩,Fj rfl⟩) hs rfl fun v7 G' H' _ hR hG35 hs=>?_)
  obtain ⟨vs,vb,es,us,rfl,hE,hU,rfl⟩:=hR
  replace hs:=hs.n rfl
  refine O_n (Sg hs.f7 rfl bN fun _ hs=>Wp 1 [0] hs rfl<|Ah ?_)
  have hs:=hs.f1
  obtain ⟨_,hG_hfs,hfs,hs⟩:=hs.fixRow noM
  replace hE:=hE.mono hG_hfs
  replace hU:=hU.mono hG_hfs
  have hs:=hs.f1
  obtain ⟨_,hG_hfb,hfb,hs⟩:=hs.fixRow noM
  replace hE:=hE.mono hG_hfb
  replace hU:=hU.mono hG_hfb
  replace hfs:=hfs.mono hG_hfb
  refine Zz results52 (Rb 0 hs rfl rF) ?_
  exact ⟨_,[],hs.done,rfl,vs,vb,rfl,by rw [show k.toNat % 14=2 from by omega];exact Fv (p:=Di 2) hE hU hfs hfb rfl rfl (fun e=>by cases e) (fun e=>by cases e)⟩
 refine Wp 5 [0] hs rfl<|Zy hs (Yc rfl (fun h37=>?_) fun h37=>?_)
 ·
  refine Wp 4 [0] hs rfl<|Bb [0,1,2,3] hs kR ?_
  replace hs:=hs.drew
  refine Xr [2] [3] hs rfl ?_
  have hle:=hs.le
  refine Xo 0 rfl (Sc (sY) hs rfl fun v8 G' H' _ hR hG38 hs=>?_)
  obtain ⟨rfl,rfl⟩:=hR
  replace hs:=hs.n rfl
  refine Am hs hle hG38 (Df _)<|Xt 1 hs rfl (Ba zeroValue137 rfl Fw rfl (cs:=[_,_,_,_,_,_,_,_,_,_,_,_,_,_,_,_,_,_,_,_,_,_,_,_,_,_,_,_,_,_,_,_,_]) rfl ?_)
  have hle:=hs.le
  refine Xo 3 rfl (Ft hs underlying100 sizeOf137 zeroValue137 kR kR kR rfl (es:=[[_,_,_,_,_,_,_,_,_,_,_,_,_,_,_,_,_,_,_,_,_,_,_,_,_,_,_,_,_,_,_,_,_],[_,_,_,_,_,_,_,_,_,_,_,_,_,_,_,_,_,_,_,_,_,_,_,_,_,_,_,_,_,_,_,_,_]]) rfl rfl fun v9 _ hs shl=>?_)
  obtain ⟨bl41,rfl⟩:=shl
  refine Am hs hle (Cj _) (List.sublist_cons_self _ _)<|Xa 4 rfl (Sc (Ky (b:=bl41) (n:=2) (css:=[[Vi 7,Vi 0,Vi 1,Vi 0,Vi 0,Vi 0,Vi 0,Vn,Vf,Vi 0,Vn,Vn,Af 0,Af 8589934592,Af 0,Af 0,Vi 0,Vi 0,Vi 0,Vi 0,Vf,Vn,Vn,Vi 0,Vf,Vi 0,Vi 0,Vi 0,Vi 0,Vn,.string ⟨[].toArray⟩,Vi 0,Vi 0],[Vi 13,Vi 1,Vi 0,Vi 0,Vi 0,Vi 0,Vi 0,Vn,Vf,Vi 0,Vn,Vn,Af 0,Af 0,Af 0,Af 0,Vi 0,Vi 0,Vi 0,Vi 0,Vf,Vn,Vn,Vi 0,Vf,Vi 0,Vi 0,Vi 0,Vi 0,Vn,.string ⟨#[120]⟩,Vi 0,Vi 0]]) (ss:=[{ Bg 7 with y:=1,c1:=8589934592,thn:=0,els:=0 },{ Bg 13 with name:=[120],x:=1,thn:=0,els:=0 }]) rfl dC dC ⟨⟨Gw.plain (s:={ Bg 7 with y:=1,c1:=8589934592,thn:=0,els:=0 }) rfl rfl rfl rfl rfl rfl,Gw.plain (s:={ Bg 13 with name:=[120],x:=1,thn:=0,els:=0 }) rfl rfl rfl rfl rfl rfl,trivial⟩,Fj rfl⟩) hs rfl fun v10 G' H' _ hR hG42 hs=>?_)
  obtain ⟨vs,vb,es,u,rfl,hE,hU,rfl⟩:=hR
  replace hs:=hs.n rfl
  refine Xn 5 rfl (Sg hs.f7 rfl bN fun _ hs=>Xe (Zk [2] rfl<|Ah ?_))
  have hs:=hs.f1
  obtain ⟨_,hG_hfs,hfs,hs⟩:=hs.fixRow noM
  replace hE:=hE.mono hG_hfs
  replace hU:=hU.mono hG_hfs
  have hs:=hs.f1
  obtain ⟨_,hG_hfb,hfb,hs⟩:=hs.fixRow noM
  replace hE:=hE.mono hG_hfb
  replace hU:=hU.mono hG_hfb
  replace hfs:=hfs.mono hG_hfb
  refine Zz results52 (Rb 0 hs rfl rF) ?_
  exact ⟨_,[],hs.done,rfl,vs,vb,rfl,by rw [show k.toNat % 14=3 from by omega];exact Fv (p:=Di 3) hE (dV hU) hfs hfb rfl rfl (fun e=>by cases e) (fun e=>by cases e)⟩
 refine Wp 5 [0] hs rfl<|Zy hs (Yc rfl (fun h44=>?_) fun h44=>?_)
 ·
  refine Wp 4 [0] hs rfl<|Bb [0,1,2,3] hs kR ?_
  replace hs:=hs.drew
  refine Xr [2] [3] hs rfl ?_
  have hle:=hs.le
  refine Xo 0 rfl (Sc (rop2_ok) hs rfl fun v11 G' H' _ hR hG45 hs=>?_)
  obtain ⟨rfl,A45,c45,B45,d45,rfl,h45,g45⟩:=hR
  replace hs:=hs.n rfl
  refine Am hs hle hG45 (Df _)<|Xt 1 hs rfl (Ba zeroValue137 rfl Fw rfl (cs:=[_,_,_,_,_,_,_,_,_,_,_,_,_,_,_,_,_,_,_,_,_,_,_,_,_,_,_,_,_,_,_,_,_]) rfl ?_)
  have hle:=hs.le
  refine Xo 3 rfl (Ft hs underlying100 sizeOf137 zeroValue137 kR kR kR rfl (es:=[[_,_,_,_,_,_,_,_,_,_,_,_,_,_,_,_,_,_,_,_,_,_,_,_,_,_,_,_,_,_,_,_,_],[_,_,_,_,_,_,_,_,_,_,_,_,_,_,_,_,_,_,_,_,_,_,_,_,_,_,_,_,_,_,_,_,_]]) rfl rfl fun v12 _ hs shl=>?_)
  obtain ⟨bl48,rfl⟩:=shl
  refine Am hs hle (Cj _) (List.sublist_cons_self _ _)<|Xa 4 rfl (Sc (Ky (b:=bl48) (n:=2) (css:=[[Vi 6,Vi 0,Vi 1,Vi 0,Vi 0,Vi 0,Vi 0,Vn,Vf,Vi 6,.slice A45 1 c45,.slice B45 1 d45,Af 0,Af 0,Af 0,Af 0,Vi 0,Vi 0,Vi 0,Vi 0,Vf,Vn,Vn,Vi 0,Vf,Vi 0,Vi 0,Vi 0,Vi 0,Vn,.string ⟨[].toArray⟩,Vi 0,Vi 0],[Vi 13,Vi 1,Vi 0,Vi 0,Vi 0,Vi 0,Vi 0,Vn,Vf,Vi 0,Vn,Vn,Af 0,Af 0,Af 0,Af 0,Vi 0,Vi 0,Vi 0,Vi 0,Vf,Vn,Vn,Vi 0,Vf,Vi 0,Vi 0,Vi 0,Vi 0,Vn,.string ⟨#[120]⟩,Vi 0,Vi 0]]) (ss:=[{ Bg 6 with y:=1,op:=⟨6,[97],[98]⟩,thn:=0,els:=0 },{ Bg 13 with name:=[120],x:=1,thn:=0,els:=0 }]) rfl dC dC ⟨⟨⟨_,_,_,_,_,_,rfl,⟨Sl.nil _ _,fun _=>rfl⟩,⟨h45,fun e=>by cases e⟩,⟨g45,fun e=>by cases e⟩,⟨Be.nil,fun _=>rfl⟩,⟨Sl.nil _ _,fun _=>rfl⟩,⟨Be.nil,fun _=>rfl⟩⟩,Gw.plain (s:={ Bg 13 with name:=[120],x:=1,thn:=0,els:=0 }) rfl rfl rfl rfl rfl rfl,trivial⟩,Fj rfl⟩) hs rfl fun v13 G' H' _ hR hG49 hs=>?_)
  obtain ⟨vs,vb,es,u,rfl,hE,hU,rfl⟩:=hR
  replace hs:=hs.n rfl
  refine Xn 5 rfl (Sg hs.f7 rfl bN fun _ hs=>Xe (Zk [2] rfl<|Ah ?_))
  have hs:=hs.f1
  obtain ⟨_,hG_hfs,hfs,hs⟩:=hs.fixRow noM
  replace hE:=hE.mono hG_hfs
  replace hU:=hU.mono hG_hfs
  have hs:=hs.f1
  obtain ⟨_,hG_hfb,hfb,hs⟩:=hs.fixRow noM
  replace hE:=hE.mono hG_hfb
  replace hU:=hU.mono hG_hfb
  replace hfs:=hfs.mono hG_hfb
  refine Zz results52 (Rb 0 hs rfl rF) ?_
  exact ⟨_,[],hs.done,rfl,vs,vb,rfl,by rw [show k.toNat % 14=4 from by omega];exact Fv (p:=Di 4) hE (dV hU) hfs hfb rfl rfl (fun e=>by cases e) (fun e=>by cases e)⟩
 refine Wp 5 [0] hs rfl<|Zy hs (Yc rfl (fun h51=>?_) fun h51=>?_)
 ·
  refine Wp 4 [0] hs rfl<|Bb [0,1,2,3] hs kR ?_
  replace hs:=hs.drew
  refine Xr [2] [3] hs rfl ?_
  have hle:=hs.le
  refine Xo 0 rfl (Sc (rop3_ok) hs rfl fun v14 G' H' _ hR hG52 hs=>?_)
  obtain ⟨rfl,A52,c52,rfl,h52⟩:=hR
  replace hs:=hs.n rfl
  refine Am hs hle hG52 (Df _)<|Xt 1 hs rfl (Ba zeroValue137 rfl Fw rfl (cs:=[_,_,_,_,_,_,_,_,_,_,_,_,_,_,_,_,_,_,_,_,_,_,_,_,_,_,_,_,_,_,_,_,_]) rfl ?_)
  have hle:=hs.le
  refine Xo 3 rfl (Ft hs underlying100 sizeOf137 zeroValue137 kR kR kR rfl (es:=[[_,_,_,_,_,_,_,_,_,_,_,_,_,_,_,_,_,_,_,_,_,_,_,_,_,_,_,_,_,_,_,_,_],[_,_,_,_,_,_,_,_,_,_,_,_,_,_,_,_,_,_,_,_,_,_,_,_,_,_,_,_,_,_,_,_,_]]) rfl rfl fun v15 _ hs shl=>?_)
  obtain ⟨bl55,rfl⟩:=shl
  refine Am hs hle (Cj _) (List.sublist_cons_self _ _)<|Xa 4 rfl (Sc (Ky (b:=bl55) (n:=2) (css:=[[Vi 6,Vi 0,Vi 1,Vi 0,Vi 0,Vi 0,Vi 0,Vn,Vf,Vi 5,.slice A52 1 c52,Vn,Af 0,Af 0,Af 0,Af 0,Vi 0,Vi 0,Vi 0,Vi 0,Vf,Vn,Vn,Vi 0,Vf,Vi 0,Vi 0,Vi 0,Vi 0,Vn,.string ⟨[].toArray⟩,Vi 0,Vi 0],[Vi 13,Vi 1,Vi 0,Vi 0,Vi 0,Vi 0,Vi 0,Vn,Vf,Vi 0,Vn,Vn,Af 0,Af 0,Af 0,Af 0,Vi 0,Vi 0,Vi 0,Vi 0,Vf,Vn,Vn,Vi 0,Vf,Vi 0,Vi 0,Vi 0,Vi 0,Vn,.string ⟨#[120]⟩,Vi 0,Vi 0]]) (ss:=[{ Bg 6 with y:=1,op:=⟨5,[98],[]⟩,thn:=0,els:=0 },{ Bg 13 with name:=[120],x:=1,thn:=0,els:=0 }]) rfl dC dC ⟨⟨⟨_,_,_,_,_,_,rfl,⟨Sl.nil _ _,fun _=>rfl⟩,⟨h52,fun e=>by cases e⟩,⟨Sl.nil _ _,fun _=>rfl⟩,⟨Be.nil,fun _=>rfl⟩,⟨Sl.nil _ _,fun _=>rfl⟩,⟨Be.nil,fun _=>rfl⟩⟩,Gw.plain (s:={ Bg 13 with name:=[120],x:=1,thn:=0,els:=0 }) rfl rfl rfl rfl rfl rfl,trivial⟩,Fj rfl⟩) hs rfl fun v16 G' H' _ hR hG56 hs=>?_)
  obtain ⟨vs,vb,es,u,rfl,hE,hU,rfl⟩:=hR
  replace hs:=hs.n rfl
  refine Xn 5 rfl (Sg hs.f7 rfl bN fun _ hs=>Xe (Zk [2] rfl<|Ah ?_))
  have hs:=hs.f1
  obtain ⟨_,hG_hfs,hfs,hs⟩:=hs.fixRow noM
  replace hE:=hE.mono hG_hfs
  replace hU:=hU.mono hG_hfs
  have hs:=hs.f1
  obtain ⟨_,hG_hfb,hfb,hs⟩:=hs.fixRow noM
  replace hE:=hE.mono hG_hfb
  replace hU:=hU.mono hG_hfb
  replace hfs:=hfs.mono hG_hfb
  refine Zz results52 (Rb 0 hs rfl rF) ?_
  exact ⟨_,[],hs.done,rfl,vs,vb,rfl,by rw [show k.toNat % 14=5 from by omega];exact Fv (p:=Di 5) hE (dV hU) hfs hfb rfl rfl (fun e=>by cases e) (fun e=>by cases e)⟩
 refine Wp 5 [0] hs rfl<|Zy hs (Yc rfl (fun h58=>?_) fun h58=>?_)
 ·
  refine Wp 5 [0] hs rfl<|O_s (Sc (fK) hs rfl fun v17 G' H' _ hR hG59 hs=>?_)
  obtain ⟨rfl,h59⟩:=hR
  replace hs:=hs.n rfl
  obtain ⟨A59,c59,rfl⟩:=Be.slice h59
  refine Zy hs (Ba zeroValue135 rfl wP rfl (cs:=[_,_,_,_,_,_,_]) rfl<|O_s (Sc (pV (cd:=⟨1,false,0,0,0,0,Ec rK⟩) (Ar:=A59) (kr:=c59) h59 (fun e=>by cases e)) hs rfl fun v18 G' H' _ hR hG61 hs=>?_))
  obtain ⟨vs,vb,es,us,rfl,hE,hU,rfl⟩:=hR
  replace hs:=hs.n rfl
  refine O_n (Sg hs.f7 rfl bN fun _ hs=>Wp 1 [0] hs rfl<|Ah ?_)
  have hs:=hs.f1
  obtain ⟨_,hG_hfs,hfs,hs⟩:=hs.fixRow noM
  replace hE:=hE.mono hG_hfs
  replace hU:=hU.mono hG_hfs
  have hs:=hs.f1
  obtain ⟨_,hG_hfb,hfb,hs⟩:=hs.fixRow noM
  replace hE:=hE.mono hG_hfb
  replace hU:=hU.mono hG_hfb
  replace hfs:=hfs.mono hG_hfb
  refine Zz results52 (Rb 0 hs rfl rF) ?_
  exact ⟨_,[],hs.done,rfl,vs,vb,rfl,by rw [show k.toNat % 14=6 from by omega];exact Fv (p:=Di 6) hE hU hfs hfb rfl rfl (fun e=>by cases e) (fun e=>by cases e)⟩
 refine Wp 5 [0] hs rfl<|Zy hs (Yc rfl (fun h63=>?_) fun h63=>?_)
 ·
  refine Wp 5 [0] hs rfl<|Zy hs (Ba zeroValue137 rfl Fw rfl (cs:=[_,_,_,_,_,_,_,_,_,_,_,_,_,_,_,_,_,_,_,_,_,_,_,_,_,_,_,_,_,_,_,_,_]) rfl<|Wp 1 [3] hs rfl<|O_s (Ft hs underlying100 sizeOf137 zeroValue137 kR kR kR rfl (es:=[[_,_,_,_,_,_,_,_,_,_,_,_,_,_,_,_,_,_,_,_,_,_,_,_,_,_,_,_,_,_,_,_,_],[_,_,_,_,_,_,_,_,_,_,_,_,_,_,_,_,_,_,_,_,_,_,_,_,_,_,_,_,_,_,_,_,_]]) rfl rfl fun v19 _ hs shl=>?_))
  obtain ⟨bl66,rfl⟩:=shl
  refine O_s (Sc (Ky (b:=bl66) (n:=2) (css:=[[Vi 4,Vi 0,Vi 1,Vi 0,Vi 0,Vi 0,Vi 1,Vn,Vf,Vi 0,Vn,Vn,Af 0,Af 0,Af 0,Af 0,Vi 0,Vi 0,Vi 0,Vi 0,Vf,Vn,Vn,Vi 0,Vf,Vi 0,Vi 0,Vi 0,Vi 0,Vn,.string ⟨[].toArray⟩,Vi 0,Vi 0],[Vi 13,Vi 1,Vi 0,Vi 0,Vi 0,Vi 0,Vi 0,Vn,Vf,Vi 0,Vn,Vn,Af 0,Af 0,Af 0,Af 0,Vi 0,Vi 0,Vi 0,Vi 0,Vf,Vn,Vn,Vi 0,Vf,Vi 0,Vi 0,Vi 0,Vi 0,Vn,.string ⟨#[120]⟩,Vi 0,Vi 0]]) (ss:=[{ Bg 4 with y:=1,i:=0,j:=1,thn:=0,els:=0 },{ Bg 13 with name:=[120],x:=1,thn:=0,els:=0 }]) rfl dC dC ⟨⟨Gw.plain (s:={ Bg 4 with y:=1,i:=0,j:=1,thn:=0,els:=0 }) rfl rfl rfl rfl rfl rfl,Gw.plain (s:={ Bg 13 with name:=[120],x:=1,thn:=0,els:=0 }) rfl rfl rfl rfl rfl rfl,trivial⟩,Fj rfl⟩) hs rfl fun v20 G' H' _ hR hG67 hs=>?_)
  obtain ⟨vs,vb,es,u,rfl,hE,hU,rfl⟩:=hR
  replace hs:=hs.n rfl
  refine O_n (Sg hs.f7 rfl bN fun _ hs=>Wp 1 [0] hs rfl<|Ah ?_)
  have hs:=hs.f1
  obtain ⟨_,hG_hfs,hfs,hs⟩:=hs.fixRow noM
  replace hE:=hE.mono hG_hfs
  replace hU:=hU.mono hG_hfs
  have hs:=hs.f1
  obtain ⟨_,hG_hfb,hfb,hs⟩:=hs.fixRow noM
  replace hE:=hE.mono hG_hfb
  replace hU:=hU.mono hG_hfb
  replace hfs:=hfs.mono hG_hfb
  refine Zz results52 (Rb 0 hs rfl rF) ?_
  exact ⟨_,[],hs.done,rfl,vs,vb,rfl,by rw [show k.toNat % 14=7 from by omega];exact Fv (p:=Di 7) hE (dV hU) hfs hfb rfl rfl (fun e=>by cases e) (fun e=>by cases e)⟩
 refine Wp 5 [0] hs rfl<|Zy hs (Yc rfl (fun h69=>?_) fun h69=>?_)
 ·
  refine Wp 5 [0] hs rfl<|Zy hs (Ba zeroValue137 rfl Fw rfl (cs:=[_,_,_,_,_,_,_,_,_,_,_,_,_,_,_,_,_,_,_,_,_,_,_,_,_,_,_,_,_,_,_,_,_]) rfl<|Wp 1 [3] hs rfl<|O_s (Ft hs underlying100 sizeOf137 zeroValue137 kR kR kR rfl (es:=[[_,_,_,_,_,_,_,_,_,_,_,_,_,_,_,_,_,_,_,_,_,_,_,_,_,_,_,_,_,_,_,_,_],[_,_,_,_,_,_,_,_,_,_,_,_,_,_,_,_,_,_,_,_,_,_,_,_,_,_,_,_,_,_,_,_,_]]) rfl rfl fun v21 _ hs shl=>?_))
  obtain ⟨bl72,rfl⟩:=shl
  refine O_s (Sc (Ky (b:=bl72) (n:=2) (css:=[[Vi 4,Vi 0,Vi 1,Vi 0,Vi 0,Vi 1,Vi (-1),Vn,Vf,Vi 0,Vn,Vn,Af 0,Af 0,Af 0,Af 0,Vi 0,Vi 0,Vi 0,Vi 0,Vf,Vn,Vn,Vi 0,Vf,Vi 0,Vi 0,Vi 0,Vi 0,Vn,.string ⟨[].toArray⟩,Vi 0,Vi 0],[Vi 13,Vi 1,Vi 0,Vi 0,Vi 0,Vi 0,Vi 0,Vn,Vf,Vi 0,Vn,Vn,Af 0,Af 0,Af 0,Af 0,Vi 0,Vi 0,Vi 0,Vi 0,Vf,Vn,Vn,Vi 0,Vf,Vi 0,Vi 0,Vi 0,Vi 0,Vn,.string ⟨#[120]⟩,Vi 0,Vi 0]]) (ss:=[{ Bg 4 with y:=1,i:=1,j:=-1,thn:=0,els:=0 },{ Bg 13 with name:=[120],x:=1,thn:=0,els:=0 }]) rfl dC dC ⟨⟨Gw.plain (s:={ Bg 4 with y:=1,i:=1,j:=-1,thn:=0,els:=0 }) rfl rfl rfl rfl rfl rfl,Gw.plain (s:={ Bg 13 with name:=[120],x:=1,thn:=0,els:=0 }) rfl rfl rfl rfl rfl rfl,trivial⟩,Fj rfl⟩) hs rfl fun v22 G' H' _ hR hG73 hs=>?_)
  obtain ⟨vs,vb,es,u,rfl,hE,hU,rfl⟩:=hR
  replace hs:=hs.n rfl
  refine O_n (Sg hs.f7 rfl bN fun _ hs=>Wp 1 [1,2] hs rfl<|Ah ?_)
  have hs:=hs.f1
  obtain ⟨_,hG_hfs,hfs,hs⟩:=hs.fixRow noM
  replace hE:=hE.mono hG_hfs
  replace hU:=hU.mono hG_hfs
  have hs:=hs.f1
  obtain ⟨_,hG_hfb,hfb,hs⟩:=hs.fixRow noM
  replace hE:=hE.mono hG_hfb
  replace hU:=hU.mono hG_hfb
  replace hfs:=hfs.mono hG_hfb
  refine Zz results52 (Rb 0 hs rfl rF) ?_
  exact ⟨_,[],hs.done,rfl,vs,vb,rfl,by rw [show k.toNat % 14=8 from by omega];exact Fv (p:=Di 8) hE (dV hU) hfs hfb rfl rfl (fun e=>by cases e) (fun e=>by cases e)⟩
 refine Wp 5 [0] hs rfl<|Zy hs (Yc rfl (fun h75=>?_) fun h75=>?_)
 ·
  refine Wp 5 [0] hs rfl<|O_s (Sc (rloo_ok) hs rfl fun v23 G' H' _ hR hG76 hs=>?_)
  obtain ⟨vs,vb,es,us,rfl,hE,hU,rfl⟩:=hR
  replace hs:=hs.n rfl
  refine O_n (Sg hs.f7 rfl bN fun _ hs=>Wp 1 [1,2] hs rfl<|Ah ?_)
  have hs:=hs.f1
  obtain ⟨_,hG_hfs,hfs,hs⟩:=hs.fixRow noM
  replace hE:=hE.mono hG_hfs
  replace hU:=hU.mono hG_hfs
  have hs:=hs.f1
  obtain ⟨_,hG_hfb,hfb,hs⟩:=hs.fixRow noM
  replace hE:=hE.mono hG_hfb
  replace hU:=hU.mono hG_hfb
  replace hfs:=hfs.mono hG_hfb
  refine Zz results52 (Rb 0 hs rfl rF) ?_
  exact ⟨_,[],hs.done,rfl,vs,vb,rfl,by rw [show k.toNat % 14=9 from by omega];exact Fv (p:=Di 9) hE hU hfs hfb rfl rfl (fun e=>by cases e) (fun e=>by cases e)⟩
 refine Wp 5 [0] hs rfl<|Zy hs (Yc rfl (fun h78=>?_) fun h78=>?_)
 ·
  refine Wp 4 [5,2,3,4,16,77] hs rfl<|Bb [0,1,2,3,4,5,6,7,8] hs kR ?_
  replace hs:=hs.drew
  refine Xr [7] [3] hs rfl<|Ks 0 5 rfl rfl kR rfl rfl ?_ ?_
  ·
   have hle:=hs.le
   refine Ew (H1:=[]) hs rfl func77 rfl kR (fK) fun v24 G' H' _ hR hG79 hs=>?_
   obtain ⟨rfl,h79⟩:=hR
   replace hs:=hs.n rfl
   obtain ⟨A79,c79,rfl⟩:=Be.slice h79
   refine Am hs hle hG79 (Df _)<|Xt 1 hs rfl (Ba zeroValue145 rfl Ov rfl (cs:=[_,_]) rfl<|Ks 2 5 rfl rfl kR rfl rfl ?_ ?_)
   ·
    have hle:=hs.le
    refine Ew (H1:=[]) hs rfl func79 rfl kR (Th) fun v25 G' H' _ hR hG81 hs=>?_
    obtain ⟨rfl,h81⟩:=hR
    replace hs:=hs.n rfl
    replace h79:=h79.mono hG81
    obtain ⟨A81,c81,rfl⟩:=Be.slice h81
    refine Am hs hle hG81 (Df _)<|Xt 3 hs rfl (Ba zeroValue145 rfl Ov rfl (cs:=[_,_]) rfl<|Ks 4 5 rfl rfl kR rfl rfl ?_ ?_)
    ·
     have hle:=hs.le
     refine Bw hs underlying131 sizeOf145 zeroValue145 rfl rfl dC dC rfl (cs:=[_,_,_,_]) rfl rfl fun v26 _ hs _=>?_
     have hsN:=hs.fixRow noM
     clear hs
     obtain ⟨_,hG83,hl83,hs⟩:=hsN
     replace h79:=h79.mono hG83
     replace h81:=h81.mono hG83
     obtain ⟨A83,c83,rfl,_⟩:=id hl83
     refine Am hs hle hG83 (Df _) ?_
     have hle:=hs.le
     refine Xo 5 rfl (Se hs zeroValue3 rfl fun v27 _ hs _=>?_)
     have hsN:=hs.fixRow noM
     clear hs
     obtain ⟨_,hG84,hl84,hs⟩:=hsN
     replace h79:=h79.mono hG84
     replace h81:=h81.mono hG84
     replace hl83:=hl83.mono hG84
     obtain ⟨A84,c84,rfl,_⟩:=id hl84
     refine Am hs hle hG84 (Df _)<|Xt 6 hs rfl (Ba zeroValue137 rfl Fw rfl (cs:=[_,_,_,_,_,_,_,_,_,_,_,_,_,_,_,_,_,_,_,_,_,_,_,_,_,_,_,_,_,_,_,_,_]) rfl ?_)
     have hle:=hs.le
     refine Xo 8 rfl (Ft hs underlying100 sizeOf137 zeroValue137 kR kR kR rfl (es:=[[_,_,_,_,_,_,_,_,_,_,_,_,_,_,_,_,_,_,_,_,_,_,_,_,_,_,_,_,_,_,_,_,_],[_,_,_,_,_,_,_,_,_,_,_,_,_,_,_,_,_,_,_,_,_,_,_,_,_,_,_,_,_,_,_,_,_]]) rfl rfl fun v28 _ hs shl=>?_)
     obtain ⟨bl87,rfl⟩:=shl
     refine Am hs hle (Cj _) (List.sublist_cons_self _ _)<|Xa 9 rfl (Sc (Hk (b:=bl87) (n:=2) (css:=[[Vi 9,Vi 0,Vi 0,Vi 0,Vi 0,Vi 0,Vi 0,Vn,Vf,Vi 0,Vn,Vn,Af 0,Af 0,Af 0,Af 0,Vi 0,Vi 0,Vi 0,Vi 0,Vf,.slice A83 2 c83,.slice A84 2 c84,Vi 0,Vf,Vi 0,Vi 0,Vi 0,Vi 0,Vn,.string ⟨[].toArray⟩,Vi 0,Vi 0],[Vi 13,Vi 1,Vi 0,Vi 0,Vi 0,Vi 0,Vi 0,Vn,Vf,Vi 0,Vn,Vn,Af 0,Af 0,Af 0,Af 0,Vi 0,Vi 0,Vi 0,Vi 0,Vf,Vn,Vn,Vi 0,Vf,Vi 0,Vi 0,Vi 0,Vi 0,Vn,.string ⟨#[120]⟩,Vi 0,Vi 0]]) (ss:=[{ Bg 9 with p:=[⟨Ec rK,false⟩,⟨Ec Pt,false⟩],ys:=[1,2],thn:=0,els:=0 },{ Bg 13 with name:=[120],x:=1,thn:=0,els:=0 }]) rfl dC dC ⟨⟨⟨_,_,_,_,_,_,rfl,⟨Sl.nil _ _,fun _=>rfl⟩,⟨Sl.nil _ _,fun _=>rfl⟩,⟨Sl.nil _ _,fun _=>rfl⟩,⟨Jw hl83 h79 h81,fun e=>by cases e⟩,⟨hl84,fun e=>by cases e⟩,⟨Be.nil,fun _=>rfl⟩⟩,Gw.plain (s:={ Bg 13 with name:=[120],x:=1,thn:=0,els:=0 }) rfl rfl rfl rfl rfl rfl,trivial⟩,Fj rfl⟩) hs rfl fun v29 G' H' _ hR hG88 hs=>?_)
     obtain ⟨vs,vb,es,us,rfl,hE,hU,rfl⟩:=hR
     replace hs:=hs.n rfl
     refine Xn 10 rfl (Sg hs.f7 rfl bN fun _ hs=>Xe (Zk [2] rfl<|Ah ?_))
     have hs:=hs.f1
     obtain ⟨_,hG_hfs,hfs,hs⟩:=hs.fixRow noM
     replace hE:=hE.mono hG_hfs
     replace hU:=hU.mono hG_hfs
     have hs:=hs.f1
     obtain ⟨_,hG_hfb,hfb,hs⟩:=hs.fixRow noM
     replace hE:=hE.mono hG_hfb
     replace hU:=hU.mono hG_hfb
     replace hfs:=hfs.mono hG_hfb
     refine Zz results52 (Rb 0 hs rfl rF) ?_
     exact ⟨_,[],hs.done,rfl,vs,vb,rfl,by rw [show k.toNat % 14=10 from by omega];exact Fv (p:=Di 10) hE hU hfs hfb rfl rfl (fun e=>by cases e) (fun e=>by cases e)⟩
    have hle:=hs.le
    refine Bw hs underlying33 sizeOf3 zeroValue3 rfl rfl dC dC rfl (cs:=[_,_]) rfl rfl fun v30 _ hs _=>?_
    have hsN:=hs.fixRow noM
    clear hs
    obtain ⟨_,hG84,hl84,hs⟩:=hsN
    replace h79:=h79.mono hG84
    replace h81:=h81.mono hG84
    obtain ⟨A84,c84,rfl,_⟩:=id hl84
    refine Am hs hle hG84 (Df _) ?_
    have hle:=hs.le
    refine Xo 4 rfl (Se hs zeroValue145 rfl fun v31 _ hs _=>?_)
    have hsN:=hs.fixRow noM
    clear hs
    obtain ⟨_,hG83,hl83,hs⟩:=hsN
    replace h79:=h79.mono hG83
    replace h81:=h81.mono hG83
    replace hl84:=hl84.mono hG83
    obtain ⟨A83,c83,rfl,_⟩:=id hl83
    refine Am hs hle hG83 (Df _)<|Xt 6 hs rfl (Ba zeroValue137 rfl Fw rfl (cs:=[_,_,_,_,_,_,_,_,_,_,_,_,_,_,_,_,_,_,_,_,_,_,_,_,_,_,_,_,_,_,_,_,_]) rfl ?_)
    have hle:=hs.le
    refine Xo 8 rfl (Ft hs underlying100 sizeOf137 zeroValue137 kR kR kR rfl (es:=[[_,_,_,_,_,_,_,_,_,_,_,_,_,_,_,_,_,_,_,_,_,_,_,_,_,_,_,_,_,_,_,_,_],[_,_,_,_,_,_,_,_,_,_,_,_,_,_,_,_,_,_,_,_,_,_,_,_,_,_,_,_,_,_,_,_,_]]) rfl rfl fun v32 _ hs shl=>?_)
    obtain ⟨bl87,rfl⟩:=shl
    refine Am hs hle (Cj _) (List.sublist_cons_self _ _)<|Xa 9 rfl (Sc (Hk (b:=bl87) (n:=2) (css:=[[Vi 9,Vi 0,Vi 0,Vi 0,Vi 0,Vi 0,Vi 0,Vn,Vf,Vi 0,Vn,Vn,Af 0,Af 0,Af 0,Af 0,Vi 0,Vi 0,Vi 0,Vi 0,Vf,.slice A83 2 c83,.slice A84 2 c84,Vi 0,Vf,Vi 0,Vi 0,Vi 0,Vi 0,Vn,.string ⟨[].toArray⟩,Vi 0,Vi 0],[Vi 13,Vi 1,Vi 0,Vi 0,Vi 0,Vi 0,Vi 0,Vn,Vf,Vi 0,Vn,Vn,Af 0,Af 0,Af 0,Af 0,Vi 0,Vi 0,Vi 0,Vi 0,Vf,Vn,Vn,Vi 0,Vf,Vi 0,Vi 0,Vi 0,Vi 0,Vn,.string ⟨#[120]⟩,Vi 0,Vi 0]]) (ss:=[{ Bg 9 with p:=[⟨Ec rK,false⟩,⟨Ec Pt,false⟩],ys:=[1,2],thn:=0,els:=0 },{ Bg 13 with name:=[120],x:=1,thn:=0,els:=0 }]) rfl dC dC ⟨⟨⟨_,_,_,_,_,_,rfl,⟨Sl.nil _ _,fun _=>rfl⟩,⟨Sl.nil _ _,fun _=>rfl⟩,⟨Sl.nil _ _,fun _=>rfl⟩,⟨Jw hl83 h79 h81,fun e=>by cases e⟩,⟨hl84,fun e=>by cases e⟩,⟨Be.nil,fun _=>rfl⟩⟩,Gw.plain (s:={ Bg 13 with name:=[120],x:=1,thn:=0,els:=0 }) rfl rfl rfl rfl rfl rfl,trivial⟩,Fj rfl⟩) hs rfl fun v33 G' H' _ hR hG88 hs=>?_)
    obtain ⟨vs,vb,es,us,rfl,hE,hU,rfl⟩:=hR
    replace hs:=hs.n rfl
    refine Xn 10 rfl (Sg hs.f7 rfl bN fun _ hs=>Xe (Zk [2] rfl<|Ah ?_))
    have hs:=hs.f1
    obtain ⟨_,hG_hfs,hfs,hs⟩:=hs.fixRow noM
    replace hE:=hE.mono hG_hfs
    replace hU:=hU.mono hG_hfs
    have hs:=hs.f1
    obtain ⟨_,hG_hfb,hfb,hs⟩:=hs.fixRow noM
    replace hE:=hE.mono hG_hfb
    replace hU:=hU.mono hG_hfb
    replace hfs:=hfs.mono hG_hfb
    refine Zz results52 (Rb 0 hs rfl rF) ?_
    exact ⟨_,[],hs.done,rfl,vs,vb,rfl,by rw [show k.toNat % 14=10 from by omega];exact Fv (p:=Di 10) hE hU hfs hfb rfl rfl (fun e=>by cases e) (fun e=>by cases e)⟩
   have hle:=hs.le
   refine Bw hs underlying33 sizeOf3 zeroValue3 rfl rfl dC dC rfl (cs:=[_,_]) rfl rfl fun v34 _ hs _=>?_
   have hsN:=hs.fixRow noM
   clear hs
   obtain ⟨_,hG84,hl84,hs⟩:=hsN
   replace h79:=h79.mono hG84
   obtain ⟨A84,c84,rfl,_⟩:=id hl84
   refine Am hs hle hG84 (Df _) ?_
   have hle:=hs.le
   refine Xo 2 rfl (Sc (Th) hs rfl fun v35 G' H' _ hR hG81 hs=>?_)
   obtain ⟨rfl,h81⟩:=hR
   replace hs:=hs.n rfl
   replace h79:=h79.mono hG81
   replace hl84:=hl84.mono hG81
   obtain ⟨A81,c81,rfl⟩:=Be.slice h81
   refine Am hs hle hG81 (Df _)<|Xt 3 hs rfl (Ba zeroValue145 rfl Ov rfl (cs:=[_,_]) rfl ?_)
   have hle:=hs.le
   refine Xo 4 rfl (Se hs zeroValue145 rfl fun v36 _ hs _=>?_)
   have hsN:=hs.fixRow noM
   clear hs
   obtain ⟨_,hG83,hl83,hs⟩:=hsN
   replace h79:=h79.mono hG83
   replace hl84:=hl84.mono hG83
   replace h81:=h81.mono hG83
   obtain ⟨A83,c83,rfl,_⟩:=id hl83
   refine Am hs hle hG83 (Df _)<|Xt 6 hs rfl (Ba zeroValue137 rfl Fw rfl (cs:=[_,_,_,_,_,_,_,_,_,_,_,_,_,_,_,_,_,_,_,_,_,_,_,_,_,_,_,_,_,_,_,_,_]) rfl ?_)
   have hle:=hs.le
   refine Xo 8 rfl (Ft hs underlying100 sizeOf137 zeroValue137 kR kR kR rfl (es:=[[_,_,_,_,_,_,_,_,_,_,_,_,_,_,_,_,_,_,_,_,_,_,_,_,_,_,_,_,_,_,_,_,_],[_,_,_,_,_,_,_,_,_,_,_,_,_,_,_,_,_,_,_,_,_,_,_,_,_,_,_,_,_,_,_,_,_]]) rfl rfl fun v37 _ hs shl=>?_)
   obtain ⟨bl87,rfl⟩:=shl
   refine Am hs hle (Cj _) (List.sublist_cons_self _ _)<|Xa 9 rfl (Sc (Hk (b:=bl87) (n:=2) (css:=[[Vi 9,Vi 0,Vi 0,Vi 0,Vi 0,Vi 0,Vi 0,Vn,Vf,Vi 0,Vn,Vn,Af 0,Af 0,Af 0,Af 0,Vi 0,Vi 0,Vi 0,Vi 0,Vf,.slice A83 2 c83,.slice A84 2 c84,Vi 0,Vf,Vi 0,Vi 0,Vi 0,Vi 0,Vn,.string ⟨[].toArray⟩,Vi 0,Vi 0],[Vi 13,Vi 1,Vi 0,Vi 0,Vi 0,Vi 0,Vi 0,Vn,Vf,Vi 0,Vn,Vn,Af 0,Af 0,Af 0,Af 0,Vi 0,Vi 0,Vi 0,Vi 0,Vf,Vn,Vn,Vi 0,Vf,Vi 0,Vi 0,Vi 0,Vi 0,Vn,.string ⟨#[120]⟩,Vi 0,Vi 0]]) (ss:=[{ Bg 9 with p:=[⟨Ec rK,false⟩,⟨Ec Pt,false⟩],ys:=[1,2],thn:=0,els:=0 },{ Bg 13 with name:=[120],x:=1,thn:=0,els:=0 }]) rfl dC dC ⟨⟨⟨_,_,_,_,_,_,rfl,⟨Sl.nil _ _,fun _=>rfl⟩,⟨Sl.nil _ _,fun _=>rfl⟩,⟨Sl.nil _ _,fun _=>rfl⟩,⟨Jw hl83 h79 h81,fun e=>by cases e⟩,⟨hl84,fun e=>by cases e⟩,⟨Be.nil,fun _=>rfl⟩⟩,Gw.plain (s:={ Bg 13 with name:=[120],x:=1,thn:=0,els:=0 }) rfl rfl rfl rfl rfl rfl,trivial⟩,Fj rfl⟩) hs rfl fun v38 G' H' _ hR hG88 hs=>?_)
   obtain ⟨vs,vb,es,us,rfl,hE,hU,rfl⟩:=hR
   replace hs:=hs.n rfl
   refine Xn 10 rfl (Sg hs.f7 rfl bN fun _ hs=>Xe (Zk [2] rfl<|Ah ?_))
   have hs:=hs.f1
   obtain ⟨_,hG_hfs,hfs,hs⟩:=hs.fixRow noM
   replace hE:=hE.mono hG_hfs
   replace hU:=hU.mono hG_hfs
   have hs:=hs.f1
   obtain ⟨_,hG_hfb,hfb,hs⟩:=hs.fixRow noM
   replace hE:=hE.mono hG_hfb
   replace hU:=hU.mono hG_hfb
   replace hfs:=hfs.mono hG_hfb
   refine Zz results52 (Rb 0 hs rfl rF) ?_
   exact ⟨_,[],hs.done,rfl,vs,vb,rfl,by rw [show k.toNat % 14=10 from by omega];exact Fv (p:=Di 10) hE hU hfs hfb rfl rfl (fun e=>by cases e) (fun e=>by cases e)⟩
  have hle:=hs.le
  refine Bw hs underlying33 sizeOf3 zeroValue3 rfl rfl dC dC rfl (cs:=[_,_]) rfl rfl fun v39 _ hs _=>?_
  have hsN:=hs.fixRow noM
  clear hs
  obtain ⟨_,hG84,hl84,hs⟩:=hsN
  obtain ⟨A84,c84,rfl,_⟩:=id hl84
  refine Am hs hle hG84 (Df _) ?_
  have hle:=hs.le
  refine Xo 0 rfl (Sc (fK) hs rfl fun v40 G' H' _ hR hG79 hs=>?_)
  obtain ⟨rfl,h79⟩:=hR
  replace hs:=hs.n rfl
  replace hl84:=hl84.mono hG79
  obtain ⟨A79,c79,rfl⟩:=Be.slice h79
  refine Am hs hle hG79 (Df _)<|Xt 1 hs rfl (Ba zeroValue145 rfl Ov rfl (cs:=[_,_]) rfl ?_)
  have hle:=hs.le
  refine Xo 2 rfl (Sc (Th) hs rfl fun v41 G' H' _ hR hG81 hs=>?_)
  obtain ⟨rfl,h81⟩:=hR
  replace hs:=hs.n rfl
  replace hl84:=hl84.mono hG81
  replace h79:=h79.mono hG81
  obtain ⟨A81,c81,rfl⟩:=Be.slice h81
  refine Am hs hle hG81 (Df _)<|Xt 3 hs rfl (Ba zeroValue145 rfl Ov rfl (cs:=[_,_]) rfl ?_)
  have hle:=hs.le
  refine Xo 4 rfl (Se hs zeroValue145 rfl fun v42 _ hs _=>?_)
  have hsN:=hs.fixRow noM
  clear hs
  obtain ⟨_,hG83,hl83,hs⟩:=hsN
  replace hl84:=hl84.mono hG83
  replace h79:=h79.mono hG83
  replace h81:=h81.mono hG83
  obtain ⟨A83,c83,rfl,_⟩:=id hl83
  refine Am hs hle hG83 (Df _)<|Xt 6 hs rfl (Ba zeroValue137 rfl Fw rfl (cs:=[_,_,_,_,_,_,_,_,_,_,_,_,_,_,_,_,_,_,_,_,_,_,_,_,_,_,_,_,_,_,_,_,_]) rfl ?_)
  have hle:=hs.le
  refine Xo 8 rfl (Ft hs underlying100 sizeOf137 zeroValue137 kR kR kR rfl (es:=[[_,_,_,_,_,_,_,_,_,_,_,_,_,_,_,_,_,_,_,_,_,_,_,_,_,_,_,_,_,_,_,_,_],[_,_,_,_,_,_,_,_,_,_,_,_,_,_,_,_,_,_,_,_,_,_,_,_,_,_,_,_,_,_,_,_,_]]) rfl rfl fun v43 _ hs shl=>?_)
  obtain ⟨bl87,rfl⟩:=shl
  refine Am hs hle (Cj _) (List.sublist_cons_self _ _)<|Xa 9 rfl (Sc (Hk (b:=bl87) (n:=2) (css:=[[Vi 9,Vi 0,Vi 0,Vi 0,Vi 0,Vi 0,Vi 0,Vn,Vf,Vi 0,Vn,Vn,Af 0,Af 0,Af 0,Af 0,Vi 0,Vi 0,Vi 0,Vi 0,Vf,.slice A83 2 c83,.slice A84 2 c84,Vi 0,Vf,Vi 0,Vi 0,Vi 0,Vi 0,Vn,.string ⟨[].toArray⟩,Vi 0,Vi 0],[Vi 13,Vi 1,Vi 0,Vi 0,Vi 0,Vi 0,Vi 0,Vn,Vf,Vi 0,Vn,Vn,Af 0,Af 0,Af 0,Af 0,Vi 0,Vi 0,Vi 0,Vi 0,Vf,Vn,Vn,Vi 0,Vf,Vi 0,Vi 0,Vi 0,Vi 0,Vn,.string ⟨#[120]⟩,Vi 0,Vi 0]]) (ss:=[{ Bg 9 with p:=[⟨Ec rK,false⟩,⟨Ec Pt,false⟩],ys:=[1,2],thn:=0,els:=0 },{ Bg 13 with name:=[120],x:=1,thn:=0,els:=0 }]) rfl dC dC ⟨⟨⟨_,_,_,_,_,_,rfl,⟨Sl.nil _ _,fun _=>rfl⟩,⟨Sl.nil _ _,fun _=>rfl⟩,⟨Sl.nil _ _,fun _=>rfl⟩,⟨Jw hl83 h79 h81,fun e=>by cases e⟩,⟨hl84,fun e=>by cases e⟩,⟨Be.nil,fun _=>rfl⟩⟩,Gw.plain (s:={ Bg 13 with name:=[120],x:=1,thn:=0,els:=0 }) rfl rfl rfl rfl rfl rfl,trivial⟩,Fj rfl⟩) hs rfl fun v44 G' H' _ hR hG88 hs=>?_)
  obtain ⟨vs,vb,es,us,rfl,hE,hU,rfl⟩:=hR
  replace hs:=hs.n rfl
  refine Xn 10 rfl (Sg hs.f7 rfl bN fun _ hs=>Xe (Zk [2] rfl<|Ah ?_))
  have hs:=hs.f1
  obtain ⟨_,hG_hfs,hfs,hs⟩:=hs.fixRow noM
  replace hE:=hE.mono hG_hfs
  replace hU:=hU.mono hG_hfs
  have hs:=hs.f1
  obtain ⟨_,hG_hfb,hfb,hs⟩:=hs.fixRow noM
  replace hE:=hE.mono hG_hfb
  replace hU:=hU.mono hG_hfb
  replace hfs:=hfs.mono hG_hfb
  refine Zz results52 (Rb 0 hs rfl rF) ?_
  exact ⟨_,[],hs.done,rfl,vs,vb,rfl,by rw [show k.toNat % 14=10 from by omega];exact Fv (p:=Di 10) hE hU hfs hfb rfl rfl (fun e=>by cases e) (fun e=>by cases e)⟩
 refine Wp 5 [5,2,3,4,16,77] hs rfl<|Zy hs (Yc rfl (fun h90=>?_) fun h90=>?_)
 ·
  refine Wp 4 [0] hs rfl<|Bb [0,1,2,3,4,5,6,7,8,9] hs kR ?_
  replace hs:=hs.drew
  refine Xr [8] [3] hs rfl<|Ks 0 6 rfl rfl kR rfl rfl ?_ ?_
  ·
   have hle:=hs.le
   refine Ew (H1:=[]) hs rfl func79 rfl kR (Th) fun v45 G' H' _ hR hG91 hs=>?_
   obtain ⟨rfl,h91⟩:=hR
   replace hs:=hs.n rfl
   obtain ⟨A91,c91,rfl⟩:=Be.slice h91
   refine Am hs hle hG91 (Df _)<|Xt 1 hs rfl (Ba zeroValue145 rfl Ov rfl (cs:=[_,_]) rfl<|Ks 2 6 rfl rfl kR rfl rfl ?_ ?_)
   ·
    have hle:=hs.le
    refine Ew (H1:=[]) hs rfl func74 rfl kR (aU) fun v46 G' H' _ hR hG93 hs=>?_
    obtain ⟨rfl,rfl⟩:=hR
    replace hs:=hs.n rfl
    replace h91:=h91.mono hG93
    refine Am hs hle hG93 (Df _)<|Ks 3 6 rfl rfl kR rfl rfl ?_ ?_
    ·
     have hle:=hs.le
     refine Ew (H1:=[]) hs rfl func80 rfl kR (Pm fJ) fun v47 G' H' _ hR hG94 hs=>?_
     obtain ⟨rfl,h94⟩:=hR
     replace hs:=hs.n rfl
     replace h91:=h91.mono hG94
     obtain ⟨A94,c94,rfl⟩:=Be.slice h94
     refine Am hs hle hG94 (Df _)<|Xt 4 hs rfl (Ba zeroValue145 rfl Ov rfl (cs:=[_,_]) rfl<|Ks 5 6 rfl rfl kR rfl rfl ?_ ?_)
     ·
      have hle:=hs.le
      refine Bw hs underlying131 sizeOf145 zeroValue145 rfl rfl dC dC rfl (cs:=[_,_,_,_]) rfl rfl fun v48 _ hs _=>?_
      have hsN:=hs.fixRow noM
      clear hs
      obtain ⟨_,hG96,hl96,hs⟩:=hsN
      replace h91:=h91.mono hG96
      replace h94:=h94.mono hG96
      obtain ⟨A96,c96,rfl,_⟩:=id hl96
      refine Am hs hle hG96 (Df _) ?_
      have hle:=hs.le
      refine Xo 6 rfl (Se hs zeroValue3 rfl fun v49 _ hs _=>?_)
      have hsN:=hs.fixRow noM
      clear hs
      obtain ⟨_,hG97,hl97,hs⟩:=hsN
      replace h91:=h91.mono hG97
      replace h94:=h94.mono hG97
      replace hl96:=hl96.mono hG97
      obtain ⟨A97,c97,rfl,_⟩:=id hl97
      refine Am hs hle hG97 (Df _)<|Xt 7 hs rfl (Ba zeroValue137 rfl Fw rfl (cs:=[_,_,_,_,_,_,_,_,_,_,_,_,_,_,_,_,_,_,_,_,_,_,_,_,_,_,_,_,_,_,_,_,_]) rfl ?_)
      have hle:=hs.le
      refine Xo 9 rfl (Ft hs underlying100 sizeOf137 zeroValue137 kR kR kR rfl (es:=[[_,_,_,_,_,_,_,_,_,_,_,_,_,_,_,_,_,_,_,_,_,_,_,_,_,_,_,_,_,_,_,_,_],[_,_,_,_,_,_,_,_,_,_,_,_,_,_,_,_,_,_,_,_,_,_,_,_,_,_,_,_,_,_,_,_,_]]) rfl rfl fun v50 _ hs shl=>?_)
      obtain ⟨bl100,rfl⟩:=shl
      refine Am hs hle (Cj _) (List.sublist_cons_self _ _)<|Xa 10 rfl (Sc (Hk (b:=bl100) (n:=2) (css:=[[Vi 9,Vi 0,Vi 0,Vi 0,Vi 0,Vi 0,Vi 0,Vn,Vf,Vi 0,Vn,Vn,Af 0,Af 0,Af 0,Af 0,Vi 0,Vi 0,Vi 0,Vi 0,Vf,.slice A96 2 c96,.slice A97 2 c97,Vi 0,Vf,Vi 0,Vi 0,Vi 0,Vi 0,Vn,.string ⟨[].toArray⟩,Vi 0,Vi 0],[Vi 13,Vi 1,Vi 0,Vi 0,Vi 0,Vi 0,Vi 0,Vn,Vf,Vi 0,Vn,Vn,Af 0,Af 0,Af 0,Af 0,Vi 0,Vi 0,Vi 0,Vi 0,Vf,Vn,Vn,Vi 0,Vf,Vi 0,Vi 0,Vi 0,Vi 0,Vn,.string ⟨#[120]⟩,Vi 0,Vi 0]]) (ss:=[{ Bg 9 with p:=[⟨Ec Pt,true⟩,⟨Ec clB,false⟩],ys:=[1,2],thn:=0,els:=0 },{ Bg 13 with name:=[120],x:=1,thn:=0,els:=0 }]) rfl dC dC ⟨⟨⟨_,_,_,_,_,_,rfl,⟨Sl.nil _ _,fun _=>rfl⟩,⟨Sl.nil _ _,fun _=>rfl⟩,⟨Sl.nil _ _,fun _=>rfl⟩,⟨Jw hl96 h91 h94,fun e=>by cases e⟩,⟨hl97,fun e=>by cases e⟩,⟨Be.nil,fun _=>rfl⟩⟩,Gw.plain (s:={ Bg 13 with name:=[120],x:=1,thn:=0,els:=0 }) rfl rfl rfl rfl rfl rfl,trivial⟩,Fj rfl⟩) hs rfl fun v51 G' H' _ hR hG101 hs=>?_)
      obtain ⟨vs,vb,es,us,rfl,hE,hU,rfl⟩:=hR
      replace hs:=hs.n rfl
      refine Xn 11 rfl (Sg hs.f7 rfl bN fun _ hs=>Xe (Zk [2] rfl<|Ah ?_))
      have hs:=hs.f1
      obtain ⟨_,hG_hfs,hfs,hs⟩:=hs.fixRow noM
      replace hE:=hE.mono hG_hfs
      replace hU:=hU.mono hG_hfs
      have hs:=hs.f1
      obtain ⟨_,hG_hfb,hfb,hs⟩:=hs.fixRow noM
      replace hE:=hE.mono hG_hfb
      replace hU:=hU.mono hG_hfb
      replace hfs:=hfs.mono hG_hfb
      refine Zz results52 (Rb 0 hs rfl rF) ?_
      exact ⟨_,[],hs.done,rfl,vs,vb,rfl,by rw [show k.toNat % 14=11 from by omega];exact Fv (p:=Di 11) hE hU hfs hfb rfl rfl (fun e=>by cases e) (fun e=>by cases e)⟩
     have hle:=hs.le
     refine Bw hs underlying33 sizeOf3 zeroValue3 rfl rfl dC dC rfl (cs:=[_,_]) rfl rfl fun v52 _ hs _=>?_
     have hsN:=hs.fixRow noM
     clear hs
     obtain ⟨_,hG97,hl97,hs⟩:=hsN
     replace h91:=h91.mono hG97
     replace h94:=h94.mono hG97
     obtain ⟨A97,c97,rfl,_⟩:=id hl97
     refine Am hs hle hG97 (Df _) ?_
     have hle:=hs.le
     refine Xo 5 rfl (Se hs zeroValue145 rfl fun v53 _ hs _=>?_)
     have hsN:=hs.fixRow noM
     clear hs
     obtain ⟨_,hG96,hl96,hs⟩:=hsN
     replace h91:=h91.mono hG96
     replace h94:=h94.mono hG96
     replace hl97:=hl97.mono hG96
     obtain ⟨A96,c96,rfl,_⟩:=id hl96
     refine Am hs hle hG96 (Df _)<|Xt 7 hs rfl (Ba zeroValue137 rfl Fw rfl (cs:=[_,_,_,_,_,_,_,_,_,_,_,_,_,_,_,_,_,_,_,_,_,_,_,_,_,_,_,_,_,_,_,_,_]) rfl ?_)
     have hle:=hs.le
     refine Xo 9 rfl (Ft hs underlying100 sizeOf137 zeroValue137 kR kR kR rfl (es:=[[_,_,_,_,_,_,_,_,_,_,_,_,_,_,_,_,_,_,_,_,_,_,_,_,_,_,_,_,_,_,_,_,_],[_,_,_,_,_,_,_,_,_,_,_,_,_,_,_,_,_,_,_,_,_,_,_,_,_,_,_,_,_,_,_,_,_]]) rfl rfl fun v54 _ hs shl=>?_)
     obtain ⟨bl100,rfl⟩:=shl
     refine Am hs hle (Cj _) (List.sublist_cons_self _ _)<|Xa 10 rfl (Sc (Hk (b:=bl100) (n:=2) (css:=[[Vi 9,Vi 0,Vi 0,Vi 0,Vi 0,Vi 0,Vi 0,Vn,Vf,Vi 0,Vn,Vn,Af 0,Af 0,Af 0,Af 0,Vi 0,Vi 0,Vi 0,Vi 0,Vf,.slice A96 2 c96,.slice A97 2 c97,Vi 0,Vf,Vi 0,Vi 0,Vi 0,Vi 0,Vn,.string ⟨[].toArray⟩,Vi 0,Vi 0],[Vi 13,Vi 1,Vi 0,Vi 0,Vi 0,Vi 0,Vi 0,Vn,Vf,Vi 0,Vn,Vn,Af 0,Af 0,Af 0,Af 0,Vi 0,Vi 0,Vi 0,Vi 0,Vf,Vn,Vn,Vi 0,Vf,Vi 0,Vi 0,Vi 0,Vi 0,Vn,.string ⟨#[120]⟩,Vi 0,Vi 0]]) (ss:=[{ Bg 9 with p:=[⟨Ec Pt,true⟩,⟨Ec clB,false⟩],ys:=[1,2],thn:=0,els:=0 },{ Bg 13 with name:=[120],x:=1,thn:=0,els:=0 }]) rfl dC dC ⟨⟨⟨_,_,_,_,_,_,rfl,⟨Sl.nil _ _,fun _=>rfl⟩,⟨Sl.nil _ _,fun _=>rfl⟩,⟨Sl.nil _ _,fun _=>rfl⟩,⟨Jw hl96 h91 h94,fun e=>by cases e⟩,⟨hl97,fun e=>by cases e⟩,⟨Be.nil,fun _=>rfl⟩⟩,Gw.plain (s:={ Bg 13 with name:=[120],x:=1,thn:=0,els:=0 }) rfl rfl rfl rfl rfl rfl,trivial⟩,Fj rfl⟩) hs rfl fun v55 G' H' _ hR hG101 hs=>?_)
     obtain ⟨vs,vb,es,us,rfl,hE,hU,rfl⟩:=hR
     replace hs:=hs.n rfl
     refine Xn 11 rfl (Sg hs.f7 rfl bN fun _ hs=>Xe (Zk [2] rfl<|Ah ?_))
     have hs:=hs.f1
     obtain ⟨_,hG_hfs,hfs,hs⟩:=hs.fixRow noM
     replace hE:=hE.mono hG_hfs
     replace hU:=hU.mono hG_hfs
     have hs:=hs.f1
     obtain ⟨_,hG_hfb,hfb,hs⟩:=hs.fixRow noM
     replace hE:=hE.mono hG_hfb
     replace hU:=hU.mono hG_hfb
     replace hfs:=hfs.mono hG_hfb
     refine Zz results52 (Rb 0 hs rfl rF) ?_
     exact ⟨_,[],hs.done,rfl,vs,vb,rfl,by rw [show k.toNat % 14=11 from by omega];exact Fv (p:=Di 11) hE hU hfs hfb rfl rfl (fun e=>by cases e) (fun e=>by cases e)⟩
    have hle:=hs.le
    refine Bw hs underlying33 sizeOf3 zeroValue3 rfl rfl dC dC rfl (cs:=[_,_]) rfl rfl fun v56 _ hs _=>?_
    have hsN:=hs.fixRow noM
    clear hs
    obtain ⟨_,hG97,hl97,hs⟩:=hsN
    replace h91:=h91.mono hG97
    obtain ⟨A97,c97,rfl,_⟩:=id hl97
    refine Am hs hle hG97 (Df _) ?_
    have hle:=hs.le
    refine Xo 3 rfl (Sc (Pm fJ) hs rfl fun v57 G' H' _ hR hG94 hs=>?_)
    obtain ⟨rfl,h94⟩:=hR
    replace hs:=hs.n rfl
    replace h91:=h91.mono hG94
    replace hl97:=hl97.mono hG94
    obtain ⟨A94,c94,rfl⟩:=Be.slice h94
    refine Am hs hle hG94 (Df _)<|Xt 4 hs rfl (Ba zeroValue145 rfl Ov rfl (cs:=[_,_]) rfl ?_)
    have hle:=hs.le
    refine Xo 5 rfl (Se hs zeroValue145 rfl fun v58 _ hs _=>?_)
    have hsN:=hs.fixRow noM
    clear hs
    obtain ⟨_,hG96,hl96,hs⟩:=hsN
    replace h91:=h91.mono hG96
    replace hl97:=hl97.mono hG96
    replace h94:=h94.mono hG96
    obtain ⟨A96,c96,rfl,_⟩:=id hl96
    refine Am hs hle hG96 (Df _)<|Xt 7 hs rfl (Ba zeroValue137 rfl Fw rfl (cs:=[_,_,_,_,_,_,_,_,_,_,_,_,_,_,_,_,_,_,_,_,_,_,_,_,_,_,_,_,_,_,_,_,_]) rfl ?_)
    have hle:=hs.le
    refine Xo 9 rfl (Ft hs underlying100 sizeOf137 zeroValue137 kR kR kR rfl (es:=[[_,_,_,_,_,_,_,_,_,_,_,_,_,_,_,_,_,_,_,_,_,_,_,_,_,_,_,_,_,_,_,_,_],[_,_,_,_,_,_,_,_,_,_,_,_,_,_,_,_,_,_,_,_,_,_,_,_,_,_,_,_,_,_,_,_,_]]) rfl rfl fun v59 _ hs shl=>?_)
    obtain ⟨bl100,rfl⟩:=shl
    refine Am hs hle (Cj _) (List.sublist_cons_self _ _)<|Xa 10 rfl (Sc (Hk (b:=bl100) (n:=2) (css:=[[Vi 9,Vi 0,Vi 0,Vi 0,Vi 0,Vi 0,Vi 0,Vn,Vf,Vi 0,Vn,Vn,Af 0,Af 0,Af 0,Af 0,Vi 0,Vi 0,Vi 0,Vi 0,Vf,.slice A96 2 c96,.slice A97 2 c97,Vi 0,Vf,Vi 0,Vi 0,Vi 0,Vi 0,Vn,.string ⟨[].toArray⟩,Vi 0,Vi 0],[Vi 13,Vi 1,Vi 0,Vi 0,Vi 0,Vi 0,Vi 0,Vn,Vf,Vi 0,Vn,Vn,Af 0,Af 0,Af 0,Af 0,Vi 0,Vi 0,Vi 0,Vi 0,Vf,Vn,Vn,Vi 0,Vf,Vi 0,Vi 0,Vi 0,Vi 0,Vn,.string ⟨#[120]⟩,Vi 0,Vi 0]]) (ss:=[{ Bg 9 with p:=[⟨Ec Pt,true⟩,⟨Ec clB,false⟩],ys:=[1,2],thn:=0,els:=0 },{ Bg 13 with name:=[120],x:=1,thn:=0,els:=0 }]) rfl dC dC ⟨⟨⟨_,_,_,_,_,_,rfl,⟨Sl.nil _ _,fun _=>rfl⟩,⟨Sl.nil _ _,fun _=>rfl⟩,⟨Sl.nil _ _,fun _=>rfl⟩,⟨Jw hl96 h91 h94,fun e=>by cases e⟩,⟨hl97,fun e=>by cases e⟩,⟨Be.nil,fun _=>rfl⟩⟩,Gw.plain (s:={ Bg 13 with name:=[120],x:=1,thn:=0,els:=0 }) rfl rfl rfl rfl rfl rfl,trivial⟩,Fj rfl⟩) hs rfl fun v60 G' H' _ hR hG101 hs=>?_)
    obtain ⟨vs,vb,es,us,rfl,hE,hU,rfl⟩:=hR
    replace hs:=hs.n rfl
    refine Xn 11 rfl (Sg hs.f7 rfl bN fun _ hs=>Xe (Zk [2] rfl<|Ah ?_))
    have hs:=hs.f1
    obtain ⟨_,hG_hfs,hfs,hs⟩:=hs.fixRow noM
    replace hE:=hE.mono hG_hfs
    replace hU:=hU.mono hG_hfs
    have hs:=hs.f1
    obtain ⟨_,hG_hfb,hfb,hs⟩:=hs.fixRow noM
    replace hE:=hE.mono hG_hfb
    replace hU:=hU.mono hG_hfb
    replace hfs:=hfs.mono hG_hfb
    refine Zz results52 (Rb 0 hs rfl rF) ?_
    exact ⟨_,[],hs.done,rfl,vs,vb,rfl,by rw [show k.toNat % 14=11 from by omega];exact Fv (p:=Di 11) hE hU hfs hfb rfl rfl (fun e=>by cases e) (fun e=>by cases e)⟩
   have hle:=hs.le
   refine Bw hs underlying33 sizeOf3 zeroValue3 rfl rfl dC dC rfl (cs:=[_,_]) rfl rfl fun v61 _ hs _=>?_
   have hsN:=hs.fixRow noM
   clear hs
   obtain ⟨_,hG97,hl97,hs⟩:=hsN
   replace h91:=h91.mono hG97
   obtain ⟨A97,c97,rfl,_⟩:=id hl97
   refine Am hs hle hG97 (Df _) ?_
   have hle:=hs.le
   refine Xo 2 rfl (Sc (aU) hs rfl fun v62 G' H' _ hR hG93 hs=>?_)
   obtain ⟨rfl,rfl⟩:=hR
   replace hs:=hs.n rfl
   replace h91:=h91.mono hG93
   replace hl97:=hl97.mono hG93
   refine Am hs hle hG93 (Df _) ?_
   have hle:=hs.le
   refine Xo 3 rfl (Sc (Pm fJ) hs rfl fun v63 G' H' _ hR hG94 hs=>?_)
   obtain ⟨rfl,h94⟩:=hR
   replace hs:=hs.n rfl
   replace h91:=h91.mono hG94
   replace hl97:=hl97.mono hG94
   obtain ⟨A94,c94,rfl⟩:=Be.slice h94
   refine Am hs hle hG94 (Df _)<|Xt 4 hs rfl (Ba zeroValue145 rfl Ov rfl (cs:=[_,_]) rfl ?_)
   have hle:=hs.le
   refine Xo 5 rfl (Se hs zeroValue145 rfl fun v64 _ hs _=>?_)
   have hsN:=hs.fixRow noM
   clear hs
   obtain ⟨_,hG96,hl96,hs⟩:=hsN
   replace h91:=h91.mono hG96
   replace hl97:=hl97.mono hG96
   replace h94:=h94.mono hG96
   obtain ⟨A96,c96,rfl,_⟩:=id hl96
   refine Am hs hle hG96 (Df _)<|Xt 7 hs rfl (Ba zeroValue137 rfl Fw rfl (cs:=[_,_,_,_,_,_,_,_,_,_,_,_,_,_,_,_,_,_,_,_,_,_,_,_,_,_,_,_,_,_,_,_,_]) rfl ?_)
   have hle:=hs.le
   refine Xo 9 rfl (Ft hs underlying100 sizeOf137 zeroValue137 kR kR kR rfl (es:=[[_,_,_,_,_,_,_,_,_,_,_,_,_,_,_,_,_,_,_,_,_,_,_,_,_,_,_,_,_,_,_,_,_],[_,_,_,_,_,_,_,_,_,_,_,_,_,_,_,_,_,_,_,_,_,_,_,_,_,_,_,_,_,_,_,_,_]]) rfl rfl fun v65 _ hs shl=>?_)
   obtain ⟨bl100,rfl⟩:=shl
   refine Am hs hle (Cj _) (List.sublist_cons_self _ _)<|Xa 10 rfl (Sc (Hk (b:=bl100) (n:=2) (css:=[[Vi 9,Vi 0,Vi 0,Vi 0,Vi 0,Vi 0,Vi 0,Vn,Vf,Vi 0,Vn,Vn,Af 0,Af 0,Af 0,Af 0,Vi 0,Vi 0,Vi 0,Vi 0,Vf,.slice A96 2 c96,.slice A97 2 c97,Vi 0,Vf,Vi 0,Vi 0,Vi 0,Vi 0,Vn,.string ⟨[].toArray⟩,Vi 0,Vi 0],[Vi 13,Vi 1,Vi 0,Vi 0,Vi 0,Vi 0,Vi 0,Vn,Vf,Vi 0,Vn,Vn,Af 0,Af 0,Af 0,Af 0,Vi 0,Vi 0,Vi 0,Vi 0,Vf,Vn,Vn,Vi 0,Vf,Vi 0,Vi 0,Vi 0,Vi 0,Vn,.string ⟨#[120]⟩,Vi 0,Vi 0]]) (ss:=[{ Bg 9 with p:=[⟨Ec Pt,true⟩,⟨Ec clB,false⟩],ys:=[1,2],thn:=0,els:=0 },{ Bg 13 with name:=[120],x:=1,thn:=0,els:=0 }]) rfl dC dC ⟨⟨⟨_,_,_,_,_,_,rfl,⟨Sl.nil _ _,fun _=>rfl⟩,⟨Sl.nil _ _,fun _=>rfl⟩,⟨Sl.nil _ _,fun _=>rfl⟩,⟨Jw hl96 h91 h94,fun e=>by cases e⟩,⟨hl97,fun e=>by cases e⟩,⟨Be.nil,fun _=>rfl⟩⟩,Gw.plain (s:={ Bg 13 with name:=[120],x:=1,thn:=0,els:=0 }) rfl rfl rfl rfl rfl rfl,trivial⟩,Fj rfl⟩) hs rfl fun v66 G' H' _ hR hG101 hs=>?_)
   obtain ⟨vs,vb,es,us,rfl,hE,hU,rfl⟩:=hR
   replace hs:=hs.n rfl
   refine Xn 11 rfl (Sg hs.f7 rfl bN fun _ hs=>Xe (Zk [2] rfl<|Ah ?_))
   have hs:=hs.f1
   obtain ⟨_,hG_hfs,hfs,hs⟩:=hs.fixRow noM
   replace hE:=hE.mono hG_hfs
   replace hU:=hU.mono hG_hfs
   have hs:=hs.f1
   obtain ⟨_,hG_hfb,hfb,hs⟩:=hs.fixRow noM
   replace hE:=hE.mono hG_hfb
   replace hU:=hU.mono hG_hfb
   replace hfs:=hfs.mono hG_hfb
   refine Zz results52 (Rb 0 hs rfl rF) ?_
   exact ⟨_,[],hs.done,rfl,vs,vb,rfl,by rw [show k.toNat % 14=11 from by omega];exact Fv (p:=Di 11) hE hU hfs hfb rfl rfl (fun e=>by cases e) (fun e=>by cases e)⟩
  have hle:=hs.le
  refine Bw hs underlying33 sizeOf3 zeroValue3 rfl rfl dC dC rfl (cs:=[_,_]) rfl rfl fun v67 _ hs _=>?_
  have hsN:=hs.fixRow noM
  clear hs
  obtain ⟨_,hG97,hl97,hs⟩:=hsN
  obtain ⟨A97,c97,rfl,_⟩:=id hl97
  refine Am hs hle hG97 (Df _) ?_
  have hle:=hs.le
  refine Xo 0 rfl (Sc (Th) hs rfl fun v68 G' H' _ hR hG91 hs=>?_)
  obtain ⟨rfl,h91⟩:=hR
  replace hs:=hs.n rfl
  replace hl97:=hl97.mono hG91
  obtain ⟨A91,c91,rfl⟩:=Be.slice h91
  refine Am hs hle hG91 (Df _)<|Xt 1 hs rfl (Ba zeroValue145 rfl Ov rfl (cs:=[_,_]) rfl ?_)
  have hle:=hs.le
  refine Xo 2 rfl (Sc (aU) hs rfl fun v69 G' H' _ hR hG93 hs=>?_)
  obtain ⟨rfl,rfl⟩:=hR
  replace hs:=hs.n rfl
  replace hl97:=hl97.mono hG93
  replace h91:=h91.mono hG93
  refine Am hs hle hG93 (Df _) ?_
  have hle:=hs.le
  refine Xo 3 rfl (Sc (Pm fJ) hs rfl fun v70 G' H' _ hR hG94 hs=>?_)
  obtain ⟨rfl,h94⟩:=hR
  replace hs:=hs.n rfl
  replace hl97:=hl97.mono hG94
  replace h91:=h91.mono hG94
  obtain ⟨A94,c94,rfl⟩:=Be.slice h94
  refine Am hs hle hG94 (Df _)<|Xt 4 hs rfl (Ba zeroValue145 rfl Ov rfl (cs:=[_,_]) rfl ?_)
  have hle:=hs.le
  refine Xo 5 rfl (Se hs zeroValue145 rfl fun v71 _ hs _=>?_)
  have hsN:=hs.fixRow noM
  clear hs
  obtain ⟨_,hG96,hl96,hs⟩:=hsN
  replace hl97:=hl97.mono hG96
  replace h91:=h91.mono hG96
  replace h94:=h94.mono hG96
  obtain ⟨A96,c96,rfl,_⟩:=id hl96
  refine Am hs hle hG96 (Df _)<|Xt 7 hs rfl (Ba zeroValue137 rfl Fw rfl (cs:=[_,_,_,_,_,_,_,_,_,_,_,_,_,_,_,_,_,_,_,_,_,_,_,_,_,_,_,_,_,_,_,_,_]) rfl ?_)
  have hle:=hs.le
  refine Xo 9 rfl (Ft hs underlying100 sizeOf137 zeroValue137 kR kR kR rfl (es:=[[_,_,_,_,_,_,_,_,_,_,_,_,_,_,_,_,_,_,_,_,_,_,_,_,_,_,_,_,_,_,_,_,_],[_,_,_,_,_,_,_,_,_,_,_,_,_,_,_,_,_,_,_,_,_,_,_,_,_,_,_,_,_,_,_,_,_]]) rfl rfl fun v72 _ hs shl=>?_)
  obtain ⟨bl100,rfl⟩:=shl
  refine Am hs hle (Cj _) (List.sublist_cons_self _ _)<|Xa 10 rfl (Sc (Hk (b:=bl100) (n:=2) (css:=[[Vi 9,Vi 0,Vi 0,Vi 0,Vi 0,Vi 0,Vi 0,Vn,Vf,Vi 0,Vn,Vn,Af 0,Af 0,Af 0,Af 0,Vi 0,Vi 0,Vi 0,Vi 0,Vf,.slice A96 2 c96,.slice A97 2 c97,Vi 0,Vf,Vi 0,Vi 0,Vi 0,Vi 0,Vn,.string ⟨[].toArray⟩,Vi 0,Vi 0],[Vi 13,Vi 1,Vi 0,Vi 0,Vi 0,Vi 0,Vi 0,Vn,Vf,Vi 0,Vn,Vn,Af 0,Af 0,Af 0,Af 0,Vi 0,Vi 0,Vi 0,Vi 0,Vf,Vn,Vn,Vi 0,Vf,Vi 0,Vi 0,Vi 0,Vi 0,Vn,.string ⟨#[120]⟩,Vi 0,Vi 0]]) (ss:=[{ Bg 9 with p:=[⟨Ec Pt,true⟩,⟨Ec clB,false⟩],ys:=[1,2],thn:=0,els:=0 },{ Bg 13 with name:=[120],x:=1,thn:=0,els:=0 }]) rfl dC dC ⟨⟨⟨_,_,_,_,_,_,rfl,⟨Sl.nil _ _,fun _=>rfl⟩,⟨Sl.nil _ _,fun _=>rfl⟩,⟨Sl.nil _ _,fun _=>rfl⟩,⟨Jw hl96 h91 h94,fun e=>by cases e⟩,⟨hl97,fun e=>by cases e⟩,⟨Be.nil,fun _=>rfl⟩⟩,Gw.plain (s:={ Bg 13 with name:=[120],x:=1,thn:=0,els:=0 }) rfl rfl rfl rfl rfl rfl,trivial⟩,Fj rfl⟩) hs rfl fun v73 G' H' _ hR hG101 hs=>?_)
  obtain ⟨vs,vb,es,us,rfl,hE,hU,rfl⟩:=hR
  replace hs:=hs.n rfl
  refine Xn 11 rfl (Sg hs.f7 rfl bN fun _ hs=>Xe (Zk [2] rfl<|Ah ?_))
  have hs:=hs.f1
  obtain ⟨_,hG_hfs,hfs,hs⟩:=hs.fixRow noM
  replace hE:=hE.mono hG_hfs
  replace hU:=hU.mono hG_hfs
  have hs:=hs.f1
  obtain ⟨_,hG_hfb,hfb,hs⟩:=hs.fixRow noM
  replace hE:=hE.mono hG_hfb
  replace hU:=hU.mono hG_hfb
  replace hfs:=hfs.mono hG_hfb
  refine Zz results52 (Rb 0 hs rfl rF) ?_
  exact ⟨_,[],hs.done,rfl,vs,vb,rfl,by rw [show k.toNat % 14=11 from by omega];exact Fv (p:=Di 11) hE hU hfs hfb rfl rfl (fun e=>by cases e) (fun e=>by cases e)⟩
 refine Wp 5 [0] hs rfl<|Zy hs (Yc rfl (fun h103=>?_) fun h103=>?_)
 ·
  refine Wp 5 [0] hs rfl<|Zy hs (Ba zeroValue135 rfl wP rfl (cs:=[_,_,_,_,_,_,_]) rfl<|O_s (Sc (pV (cd:=⟨3,false,0,0,0,2,[]⟩) (Ar:=none) (kr:=0) Be.nil (fun _=>rfl)) hs rfl fun v74 G' H' _ hR hG105 hs=>?_))
  obtain ⟨vs,vb,es,us,rfl,hE,hU,rfl⟩:=hR
  replace hs:=hs.n rfl
  refine O_n (Sg hs.f7 rfl bN fun _ hs=>Wp 1 [0] hs rfl<|Ah ?_)
  have hs:=hs.f1
  obtain ⟨_,hG_hfs,hfs,hs⟩:=hs.fixRow noM
  replace hE:=hE.mono hG_hfs
  replace hU:=hU.mono hG_hfs
  have hs:=hs.f1
  obtain ⟨_,hG_hfb,hfb,hs⟩:=hs.fixRow noM
  replace hE:=hE.mono hG_hfb
  replace hU:=hU.mono hG_hfb
  replace hfs:=hfs.mono hG_hfb
  refine Zz results52 (Rb 0 hs rfl rF) ?_
  exact ⟨_,[],hs.done,rfl,vs,vb,rfl,by rw [show k.toNat % 14=12 from by omega];exact Fv (p:=Di 12) hE hU hfs hfb rfl rfl (fun e=>by cases e) (fun e=>by cases e)⟩
 refine Wp 6 [0] hs rfl<|Zy hs (Ba zeroValue129 rfl wO rfl (cs:=[_,_,_,_,_]) rfl<|Zy hs (Ba zeroValue137 rfl Fw rfl (cs:=[_,_,_,_,_,_,_,_,_,_,_,_,_,_,_,_,_,_,_,_,_,_,_,_,_,_,_,_,_,_,_,_,_]) rfl<|Wp 1 [4] hs rfl<|O_s (Ft hs underlying100 sizeOf137 zeroValue137 kR kR kR rfl (es:=[[_,_,_,_,_,_,_,_,_,_,_,_,_,_,_,_,_,_,_,_,_,_,_,_,_,_,_,_,_,_,_,_,_],[_,_,_,_,_,_,_,_,_,_,_,_,_,_,_,_,_,_,_,_,_,_,_,_,_,_,_,_,_,_,_,_,_]]) rfl rfl fun v75 _ hs shl=>?_)))
 obtain ⟨bl109,rfl⟩:=shl
 refine O_s (Sc (Hk (b:=bl109) (n:=2) (css:=[[Vi 8,Vi 0,Vi 0,Vi 0,Vi 0,Vi 0,Vi 0,Vn,Vf,Vi 0,Vn,Vn,Af 0,Af 0,Af 0,Af 0,Vi 16,Vi 2,Vi 11,Vi 2,Vf,Vn,Vn,Vi 0,Vf,Vi 0,Vi 0,Vi 0,Vi 0,Vn,.string ⟨[].toArray⟩,Vi 0,Vi 0],[Vi 13,Vi 0,Vi 0,Vi 0,Vi 0,Vi 0,Vi 0,Vn,Vf,Vi 0,Vn,Vn,Af 0,Af 0,Af 0,Af 0,Vi 0,Vi 0,Vi 0,Vi 0,Vf,Vn,Vn,Vi 0,Vf,Vi 0,Vi 0,Vi 0,Vi 0,Vn,.string ⟨#[120]⟩,Vi 0,Vi 0]]) (ss:=[{ Bg 8 with rule:=⟨16,2,11,2,false⟩,thn:=0,els:=0 },{ Bg 13 with name:=[120],thn:=0,els:=0 }]) rfl dC dC ⟨⟨Gw.plain (s:={ Bg 8 with rule:=⟨16,2,11,2,false⟩,thn:=0,els:=0 }) rfl rfl rfl rfl rfl rfl,Gw.plain (s:={ Bg 13 with name:=[120],thn:=0,els:=0 }) rfl rfl rfl rfl rfl rfl,trivial⟩,Fj rfl⟩) hs rfl fun v76 G' H' _ hR hG110 hs=>?_)
 obtain ⟨vs,vb,es,us,rfl,hE,hU,rfl⟩:=hR
 replace hs:=hs.n rfl
 refine O_n (Sg hs.f7 rfl bN fun _ hs=>Wp 1 [0] hs rfl<|Ah ?_)
 have hs:=hs.f1
 obtain ⟨_,hG_hfs,hfs,hs⟩:=hs.fixRow noM
 replace hE:=hE.mono hG_hfs
 replace hU:=hU.mono hG_hfs
 have hs:=hs.f1
 obtain ⟨_,hG_hfb,hfb,hs⟩:=hs.fixRow noM
 replace hE:=hE.mono hG_hfb
 replace hU:=hU.mono hG_hfb
 replace hfs:=hfs.mono hG_hfb
 refine Zz results52 (Rb 0 hs rfl rF) ?_
 exact ⟨_,[],hs.done,rfl,vs,vb,rfl,by rw [show k.toNat % 14=13 from by omega];exact Fv (p:=Di 13) hE hU hfs hfb rfl rfl (fun e=>by cases e) (fun e=>by cases e)⟩
def Nr (l:List Nat):List Int:=l.map fun x:Nat=>(x:Int)
theorem yU {l:List Nat} {x:Nat}:(x:Int)∈Nr l↔x∈l:=by
  unfold Nr
  rw [List.mem_map]
  refine ⟨fun ⟨y,hy,e⟩=>?_,fun h=>⟨x,h,rfl⟩⟩
  have:y=x:=by omega
  rw [← this];exact hy
theorem aX:∀ (n:Nat) (l:List Nat),l.Nodup→(∀ y∈l,y<n)→l.length≤n
  | 0,l,_,h=>by
    cases l with
    | nil=>simp
    | cons a l=>exact absurd (h a List.mem_cons_self) (Nat.not_lt_zero _)
  | n+1,l,hd,h=>by
    by_cases hm:n∈l
    · have h1:=aX n (l.erase n) (hd.erase n) (fun y hy=>by
        have h2:=(hd.mem_erase_iff).1 hy
        have:=h y h2.2
        have h3:=h2.1
        omega)
      rw [List.length_erase_of_mem hm] at h1;omega
    · exact Nat.le_succ_of_le (aX n l hd fun y hy=>by
        have:=h y hy
        have h3:y≠n:=fun e=>hm (e▸hy)
        omega)
theorem pW {α:Type} {l:List α} {i:Nat} {a:α} (h:i<l.length):l.getD i a=l[i]:=by rw [List.getD_eq_getElem?_getD,List.getElem?_eq_getElem h];rfl
theorem Vk {es:List (Int×Int)}:∀ (l pre:List Int),Ev es pre l=true→l.Nodup∧∀ x∈l,x∉pre
  | [],_,_=>⟨by simp,by simp⟩
  | x::l,pre,h=>by
    rw [Ev] at h
    simp only [Bool.and_eq_true,Bool.not_eq_true'] at h
    obtain ⟨h1,h2⟩:=Vk l (pre++[x]) h.2.2
    have hx:x∉pre:=by
      have:=h.1
      rw [← Bool.not_eq_true,List.contains_iff_mem] at this
      exact this
    refine ⟨List.nodup_cons.2 ⟨fun hm=>h2 x hm sM,h1⟩,fun y hy hm=>?_⟩
    rcases List.mem_cons.1 hy with rfl | hy
    · exact hx hm
    · exact h2 y hy (List.mem_append_left _ hm)
theorem yV {c:Ctx} {G:Ghost} {H:List Res} {w:World} {e k n:Nat} {v:Value} {xs ys:List Value} (hs:St c G (.row e k v n xs::H) w) (h:xs=ys):St c G (.row e k v n ys::H) w:=h▸hs
theorem Qf {G:Ghost} {v:Value} {l:List Nat} (h:Cc G v l):Bt G v (l.map fun x:Nat=>(x:Int)):=by
  show Sl G v 1 (List.map _ l).length (List.map _ (List.map _ l))
  rw [List.length_map,List.map_map];exact h
def cG (a b:Int):Nat→List (Int×Int)→Int
  | _,[]=>-1
  | i,e::l=>if e.1=a∧e.2=b then (i:Int) else cG a b (i+1) l
theorem fN {a b:Int}:∀ (l:List (Int×Int)) (i:Nat),0≤cG a b i l↔(a,b)∈l
  | [],i=>by simp [cG]
  | e::l,i=>by
    rw [cG,List.mem_cons]
    split
    · rename_i h
      obtain ⟨e1,e2⟩:=e
      dsimp only at h
      constructor
      · intro _;left;rw [h.1,h.2]
      · intro _;omega
    · rename_i h
      rw [fN l (i+1)]
      constructor
      · intro h2;exact .inr h2
      · rintro (h2 | h2)
        · exact absurd ⟨by rw [← h2],by rw [← h2]⟩ h
        · exact h2
theorem redg_ok {G:Ghost} {a b:Int} {wp wr:Value} {An Ae:Option Addr} {nn cn ce:Nat} {es:List (Int×Int)} (hE:kT G (.slice Ae es.length ce) es) (hez:es.length≤1000) :
  Ai prog 81 [.agg #[wp,.slice An nn cn,.slice Ae es.length ce,wr],Vi a,Vi b] G [] fun r _ H'=>H'=[]∧r=Vi (cG a b 0 es):=by
 refine Ai.of_T [(0,_),(1,_),(2,_)] func81 rfl ntmps81 sM rfl fun w0 hs=>?_
 have hE0:=hE
 refine Wt 2 [] hs rfl<|O_s (Sb hs rfl fun b3 _ hs=>Wp 7 [0,0] hs rfl<|Zl [1,2,3,7] (fun m E w=>∃ (k:Nat) (G2:Ghost),k≤es.length∧cG a b 0 es=cG a b k (es.drop k)∧m=es.length-k∧E=⟨[],[(1,Vi a),(2,Vi b),(3,Vp b3),(7,Vi (k:Int))]⟩∧St ⟨w0,G,Bl []⟩ G2 [.blk b3 43 [wp,.slice An nn cn,.slice Ae es.length ce,wr]] w) rfl (⟨0,_,by omega,rfl,rfl,rfl,hs⟩) fun m E w hI=>?_)
 obtain ⟨k,G2,hk,hfo,rfl,rfl,hs⟩:=hI
 have hE:=hE0.mono hs.le
 refine Wt 7 [2,0] hs rfl<|Zy hs (Yc rfl (fun h12=>?_) fun h12=>?_)
 ·
  refine Wp 3 [0] hs rfl ?_
  obtain ⟨e,hee⟩:∃ z,z=es[k]'oM:=⟨_,rfl⟩
  refine Wu 7 [2,0] hs rfl<|Zy hs (Bp hE k underlying40 sizeOf70 rfl rfl rfl oM fun p18 c18 hp18 hc18 hR18=>?_)
  rw [← hee] at hR18
  obtain rfl:c18=[Vi e.1,Vi e.2]:=hR18
  refine Zy hs (Eo 0 underlying70 sizeOf3 rfl rfl rfl dC<|Zy hs (Yg rfl (hp18 0 (Vi e.1) rfl)<|Wp 1 [] hs rfl<|Zy hs (Yc rfl (fun h22=>?_) fun h22=>?_)))
  ·
   refine Wp 4 [2,0] hs rfl<|Zg hs rfl (Bp hE k underlying40 sizeOf70 rfl rfl rfl oM fun p27 c27 hp27 hc27 hR27=>?_)
   rw [← hee] at hR27
   obtain rfl:c27=[Vi e.1,Vi e.2]:=hR27
   refine Zg hs rfl (Eo 1 underlying70 sizeOf3 rfl rfl rfl dC<|Zg hs rfl (Yg rfl (hp27 1 (Vi e.2) rfl)<|Wp 1 [] hs rfl<|Zg hs rfl (Yc rfl (fun h31=>?_) fun h31=>?_)))
   ·
    refine Wp 8 [5,1,2,3,7,32,0] hs rfl<|Ah<|Zz results81 rfl ?_
    exact ⟨_,[],hs.done,rfl,congrArg (Value.int .i64) (by rw [hfo,List.drop_eq_getElem_cons oM,← hee,cG,if_pos oM])⟩
   refine Wp 6 [5,1,2,3,7,32] hs rfl<|Zy hs (Ya (s:=((k+1:Nat):Int)) rfl<|Wp 1 [] hs rfl<|Zx [1,2,3,7] rfl ⟨k+1,_,by omega,by rw [hfo,List.drop_eq_getElem_cons oM,← hee,cG,if_neg oM],rfl,rfl,hs.weak hs.le (Cj _) (Ea [_] _)⟩)
  refine Wp 15 [5,1,2,3,7,32] hs rfl<|Zy hs (Ya (s:=((k+1:Nat):Int)) rfl<|Wp 1 [] hs rfl<|Zx [1,2,3,7] rfl ⟨k+1,_,by omega,by rw [hfo,List.drop_eq_getElem_cons oM,← hee,cG,if_neg oM],rfl,rfl,hs.weak hs.le (Cj _) (Ea [_] _)⟩)
 refine Wp 3 [0] hs rfl<|Wu 4 [0] hs rfl<|Ah<|Zz results81 rfl ?_
 obtain rfl:k=es.length:=by omega
 rw [List.drop_length] at hfo
 exact ⟨_,[],hs.done,rfl,congrArg (Value.int .i64) hfo.symm⟩
end Go.Proofs.YtngdgnolkilheaaGreatDoor
namespace Go.Proofs.YtngdgnolkilheaaGreatDoor
open Go Go.Ex
theorem sZ (k:Nat):¬ Di k=tM:=by
 intro h
 have h2:=congrArg By.blocks h
 unfold Di at h2
 split at h2<;>cases h2
structure Ut where
 size:Nat
 progs:List Nat
 nodes:List Nat
 edges:Nat
 routes:List Nat
structure Ut.ok (x:Ut):Prop where
 p:x.progs.length=4
 n:x.nodes.length=5
 r:x.routes.length=3
 rl:∀ z∈x.routes,z<65536
def Jx (s:Nat):Nat:=2+s % 3
def Eh (s:Nat):Nat:=2+s / 3 % 4
def Pw (s:Nat):Nat:=1+s / 12 % 3
def Jm (k:Nat):Nat:=1+k / 8 % 3
def Li (np k:Nat):List Int:=(List.range (Jm k)).map fun j=>(((k / 24+j*(1+k / 96 % 2)) % np:Nat):Int)
def Qx (np k:Nat):Oq:=⟨Li np k,((k / 2 % Jm k:Nat):Int),((k / 2 % Jm k:Nat):Int),decide (0<k % 8)⟩
def Ie (e i k:Nat):Bool:=decide (¬ i=k) && (decide (k=i+1) || decide (e / 2 ^ (5*i+k) % 2=1))
def Mw (e i n:Nat):List (Int×Int):=((List.range n).filter (Ie e i)).map fun k:Nat=>((i:Int),(k:Int))
def Ee (e n:Nat):List (Int×Int):=(List.range n).flatMap fun i=>Mw e i n
def Dw (es:List (Int×Int)) (n:Nat) (l:List Nat):List Nat:=(List.range n).filter fun k:Nat=>decide ((((l.getLastD 0:Nat):Int),(k:Int))∈es) && !(l.contains k)
def Jb (es:List (Int×Int)) (n:Nat):Nat→List Nat→Nat→List Nat
 | 0,l,_=>l
 | f+1,l,x=>if n≤l.length then l else if Dw es n l=[]∨(1<l.length∧x % 4=3) then l
  else Jb es n f (l++[(Dw es n l).getD (x / 4 % (Dw es n l).length) 0]) ((x / 8+x*8191) % 65536)
def Fg (es:List (Int×Int)) (n x:Nat):List Nat:=Jb es n n [x % (n-1)] (x / 5)
def Gc (x:Ut):Cg :=
 let np:=Jx x.size;let n:=Eh x.size;let es:=Ee x.edges n
 ⟨(x.progs.take np).map fun k=>Di (k % 14),(x.nodes.take n).map (Qx np),es,(x.routes.take (Pw x.size)).map fun r=>Nr (Fg es n r)⟩
theorem dW {n:Int}:∀ (l s:List (Int×Int)),(∀ e∈l,e∉s)→l.Nodup→(∀ e∈l,Re e.1 n=true∧Re e.2 n=true∧¬ e.1=e.2)→Hp n s l=true
 | [],_,_,_,_=>rfl
 | e::l,s,h1,h2,h3=>by
  obtain ⟨h4,h5,h6⟩:=h3 e List.mem_cons_self
  have h2':=List.nodup_cons.1 h2
  have ih:=dW l (s++[e]) (fun z hz hm=>by
   rcases List.mem_append.1 hm with hm | hm
   ·exact h1 z (List.mem_cons_of_mem _ hz) hm
   ·exact h2'.1 (by rw [← List.mem_singleton.1 hm];exact hz)) h2'.2 (fun z hz=>h3 z (List.mem_cons_of_mem _ hz))
  rw [Hp,ih,h4,h5,decide_eq_false (h1 e List.mem_cons_self),decide_eq_false h6];rfl
theorem Vl {e n:Nat} {p:Int×Int}:p∈Ee e n↔∃ i k:Nat,i<n∧k<n∧Ie e i k=true∧p=((i:Int),(k:Int)):=by
 unfold Ee Mw
 rw [List.mem_flatMap]
 constructor
 ·rintro ⟨i,hi,h⟩
  obtain ⟨k,hk,rfl⟩:=List.mem_map.1 h
  rw [List.mem_filter,List.mem_range] at hk
  exact ⟨i,k,List.mem_range.1 hi,hk.1,hk.2,rfl⟩
 ·rintro ⟨i,k,hi,hk,h,rfl⟩
  exact ⟨i,List.mem_range.2 hi,List.mem_map.2 ⟨k,List.mem_filter.2 ⟨List.mem_range.2 hk,h⟩,rfl⟩⟩
theorem cH (e i n:Nat):(Mw e i n).Nodup:=by
 unfold Mw
 have h0:((List.range n).filter (Ie e i)).Nodup:=((List.pairwise_lt_range (n:=n)).imp (fun h=>Nat.ne_of_lt h)).filter _
 refine List.Pairwise.map _ (fun a b h e=>h ?_) h0
 injection e with e1 e2
 omega
theorem cI (e n:Nat):(Ee e n).Nodup:=by
 unfold Ee
 rw [List.Nodup,List.pairwise_flatMap]
 refine ⟨fun i _=>cH e i n,(List.pairwise_lt_range (n:=n)).imp ?_⟩
 intro a b hab x hx y hy hxy
 unfold Mw at hx hy
 obtain ⟨k,_,rfl⟩:=List.mem_map.1 hx
 obtain ⟨m,_,rfl⟩:=List.mem_map.1 hy
 injection hxy with h1 h2
 omega
theorem mX (e n:Nat):Gm n (Ee e n)=true:=by
 refine dW _ [] Dv (cI e n) fun p hp=>?_
 obtain ⟨i,k,hi,hk,h,rfl⟩:=Vl.1 hp
 unfold Ie at h
 simp only [Bool.and_eq_true,decide_eq_true_iff] at h
 exact ⟨Iv.2 (by constructor<;>(show _;dsimp only;omega)),Iv.2 (by constructor<;>(show _;dsimp only;omega)),by dsimp only;omega⟩
theorem fO {e n i:Nat} (h:i+1<n):((i:Int),((i+1:Nat):Int))∈Ee e n :=
 Vl.2 ⟨i,i+1,by omega,h,by unfold Ie;simp,rfl⟩
theorem Vm {es:List (Int×Int)} {y:Int}:∀ (l pre:List Int),Ev es pre (l++[y])=(Ev es pre l && (!((pre++l).contains y) && Sy es (pre++l).getLast? y))
 | [],pre=>by
  rw [List.nil_append,Ev,List.append_nil]
  show (!(pre.contains y) && (Sy es pre.getLast? y && Ev es (pre++[y]) []))=(true && _)
  rw [Ev,Bool.and_true,Bool.true_and]
 | x::l,pre=>by
  rw [List.cons_append,Ev,Ev,Vm l (pre++[x]),List.append_assoc,List.singleton_append]
  simp only [Bool.and_assoc]
structure Vo (es:List (Int×Int)) (n:Nat) (l:List Nat):Prop where
 g:Ev es [] (Nr l)=true
 n0:1≤l.length
 rng:∀ y∈l,y<n
theorem jW {es:List (Int×Int)} {n k:Nat} {l:List Nat}:k∈Dw es n l↔k<n∧(((l.getLastD 0:Nat):Int),(k:Int))∈es∧k∉l:=by
 unfold Dw
 rw [List.mem_filter,List.mem_range,Bool.and_eq_true,decide_eq_true_iff,Bool.not_eq_true',← Bool.not_eq_true,List.contains_iff_mem]
theorem Vo.snoc {es:List (Int×Int)} {n k:Nat} {l:List Nat} (h:Vo es n l) (hk:k∈Dw es n l):Vo es n (l++[k]):=by
 obtain ⟨h1,h2,h3⟩:=jW.1 hk
 refine ⟨?_,by simp,fun y hy=>?_⟩
 ·have e:Nr (l++[k])=Nr l++[(k:Int)]:=by unfold Nr;simp
  rw [e,Vm,h.g,List.nil_append,Bool.true_and,Bool.and_eq_true]
  refine ⟨?_,?_⟩
  ·rw [Bool.not_eq_true',← Bool.not_eq_true,List.contains_iff_mem,yU];exact h3
  ·have hl:(Nr l).getLast?=some ((l.getLastD 0:Nat):Int):=by
    unfold Nr
    rw [List.getLast?_map,List.getLastD_eq_getLast?]
    cases e2:l.getLast? with
    | none=>rw [List.getLast?_eq_none_iff] at e2;rw [e2] at h;exact absurd h.n0 Dv
    | some z=>rfl
   rw [hl];exact decide_eq_true h2
 ·rcases List.mem_append.1 hy with hy | hy
  ·exact h.rng y hy
  ·rw [List.mem_singleton.1 hy];exact h1
theorem jX {es:List (Int×Int)} {n x:Nat} {l:List Nat} (h:¬ Dw es n l=[]):x % (Dw es n l).length<(Dw es n l).length∧(Dw es n l).getD (x % (Dw es n l).length) 0∈Dw es n l:=by
 have h1:x % (Dw es n l).length<(Dw es n l).length:=Nat.mod_lt _ (by
  cases e:Dw es n l with
  | nil=>exact absurd e h
  | cons _ _=>simp)
 exact ⟨h1,by rw [pW h1];exact List.getElem_mem _⟩
theorem pX {es:List (Int×Int)} {n:Nat}:∀ (f:Nat) (l:List Nat) (x:Nat),Vo es n l→Vo es n (Jb es n f l x)∧l.length≤(Jb es n f l x).length
 | 0,l,_,h=>⟨h,Nat.le_refl _⟩
 | f+1,l,x,h=>by
  rw [Jb]
  split
  ·exact ⟨h,Nat.le_refl _⟩
  ·split
   ·exact ⟨h,Nat.le_refl _⟩
   ·rename_i h1 h2
    have h3:=jX (x:=x / 4) (fun e=>h2 (.inl e))
    have ih:=pX f _ ((x / 8+x*8191) % 65536) (h.snoc h3.2)
    exact ⟨ih.1,Nat.le_trans (by rw [List.length_append];omega) ih.2⟩
theorem Vo.len {es:List (Int×Int)} {n:Nat} {l:List Nat} (h:Vo es n l):l.length≤n:=by
 refine aX n l ?_ h.rng
 have:=(Vk _ _ h.g).1
 unfold Nr at this
 exact List.Pairwise.of_map _ (fun a b h e=>h (by rw [e])) this
theorem mY {e n x:Nat} (h2:2≤n) (h12:n≤12):Gh (Ee e n) (Nr (Fg (Ee e n) n x))=true∧(∀ y∈Fg (Ee e n) n x,y<n)∧2≤(Fg (Ee e n) n x).length∧(Fg (Ee e n) n x).length≤n:=by
 have ha:x % (n-1)<n-1:=Nat.mod_lt _ Dy
 have h0:Vo (Ee e n) n [x % (n-1)]:=⟨by
  show Ev _ [] [((x % (n-1):Nat):Int)]=true
  rw [Ev,Ev];rfl,by simp,fun y hy=>by rw [List.mem_singleton.1 hy];omega⟩
 have hr:Fg (Ee e n) n x=Jb (Ee e n) n n [x % (n-1)] (x / 5):=rfl
 obtain ⟨m,rfl⟩:∃ m,n=m+1:=⟨n-1,by omega⟩
 have ho:¬ Dw (Ee e (m+1)) (m+1) [x % (m+1-1)]=[]:=by
  intro he
  have:x % (m+1-1)+1∈Dw (Ee e (m+1)) (m+1) [x % (m+1-1)]:=jW.2 ⟨by omega,fO (i:=x % (m+1-1)) Dy,by simp⟩
  rw [he] at this;cases this
 have h3:=jX (x:=x / 5 / 4) ho
 rw [Jb,if_neg Lk,if_neg (fun h=>by rcases h with h | h;exact ho h;exact absurd h.1 Dv)] at hr
 have hg:=pX m _ ((x / 5 / 8+x / 5*8191) % 65536) (h0.snoc h3.2)
 rw [← hr] at hg
 have hl:=hg.1.len
 have hl2:2≤(Fg (Ee e (m+1)) (m+1) x).length:=by have:=hg.2;rw [List.length_append] at this;exact this
 refine ⟨?_,hg.1.rng,hl2,hl⟩
 unfold Gh
 rw [Bool.and_eq_true]
 exact ⟨decide_eq_true (by unfold Nr;rw [List.length_map];omega),hg.1.g⟩
theorem fP {x:Ut} (hx:x.ok):(Gc x).nodes.length=Eh x.size:=by
 show (List.map _ _).length=_
 rw [List.length_map,List.length_take,hx.n];unfold Eh;omega
theorem fQ {x:Ut} (hx:x.ok):(Gc x).progs.length=Jx x.size:=by
 show (List.map _ _).length=_
 rw [List.length_map,List.length_take,hx.p];unfold Jx;omega
theorem fR {x:Ut} (hx:x.ok):(Gc x).routes.length=Pw x.size:=by
 show (List.map _ _).length=_
 rw [List.length_map,List.length_take,hx.r];unfold Pw;omega
theorem Kz (s:Nat):2≤Eh s∧Eh s≤5:=by unfold Eh;omega
theorem Ti (s:Nat):2≤Jx s∧Jx s≤4:=by unfold Jx;omega
theorem Tj (s:Nat):1≤Pw s∧Pw s≤3:=by unfold Pw;omega
theorem Tk (k:Nat):1≤Jm k∧Jm k≤3:=by unfold Jm;omega
theorem tA {np k:Nat} (h:1≤np):Km np (Qx np k)=true:=by
 have hv:=Tk k
 have hl:(Qx np k).vers.length=Jm k:=by show (List.map _ _).length=_;rw [List.length_map,List.length_range]
 have hr:k / 2 % Jm k<Jm k:=Nat.mod_lt _ Dy
 unfold Km
 rw [hl]
 simp only [Bool.and_eq_true,decide_eq_true_iff]
 refine ⟨by omega,?_,Iv.2 ?_,Iv.2 ?_⟩
 ·rw [List.all_eq_true]
  intro v hv
  obtain ⟨j,_,rfl⟩:=List.mem_map.1 hv
  have:=Nat.mod_lt (k / 24+j*(1+k / 96 % 2)) (show 0<np by omega)
  exact Iv.2 Dy
 ·show 0≤((k / 2 % Jm k:Nat):Int)∧((k / 2 % Jm k:Nat):Int)<_
  omega
 ·show 0≤((k / 2 % Jm k:Nat):Int)∧((k / 2 % Jm k:Nat):Int)<_
  omega
theorem Qy {x:Ut} {r:List Int} (h:r∈(Gc x).routes):∃ l:List Nat,r=Nr l∧Gh (Gc x).edges r=true∧(∀ y∈l,y<Eh x.size)∧2≤l.length∧l.length≤Eh x.size:=by
 have h':r∈(x.routes.take (Pw x.size)).map fun r=>Nr (Fg (Ee x.edges (Eh x.size)) (Eh x.size) r):=h
 obtain ⟨z,_,rfl⟩:=List.mem_map.1 h'
 have:=mY (e:=x.edges) (n:=Eh x.size) (x:=z) (Kz _).1 (Nat.le_trans (Kz _).2 (by decide))
 exact ⟨_,rfl,this.1,this.2.1,this.2.2.1,this.2.2.2⟩
theorem fS {x:Ut} (hx:x.ok):Dm (Gc x)=0:=by
 have hn:=fP hx;have hp:=fQ hx;have hr:=fR hx
 have hn2:=Kz x.size;have hp2:=Ti x.size;have hr2:=Tj x.size
 unfold Dm
 rw [if_neg Dy,if_neg Dy,if_neg,if_neg,if_neg,if_neg]
 ·rw [Bool.not_eq_false,List.all_eq_true]
  intro r h
  obtain ⟨_,_,h1,_⟩:=Qy h
  exact h1
 ·rw [Bool.not_eq_false,hn];exact mX _ _
 ·rw [Bool.not_eq_false,List.all_eq_true]
  intro y hy
  have hy':y∈(x.nodes.take (Eh x.size)).map (Qx (Jx x.size)):=hy
  obtain ⟨k,_,rfl⟩:=List.mem_map.1 hy'
  rw [hp];exact tA Dy
 ·rw [Bool.not_eq_false,List.all_eq_true]
  intro p h
  have h':p∈(x.progs.take (Jx x.size)).map fun k=>Di (k % 14):=h
  obtain ⟨k,_,rfl⟩:=List.mem_map.1 h'
  exact decide_eq_true (sZ _)
theorem yW {x:Ut} (hx:x.ok):(fF (Gc x)).length≤12:=by
 have hr:=fR hx;have hr2:=Tj x.size;have hn2:=Kz x.size
 have key:∀ l:List (List Int),(∀ r∈l,r.length≤5)→(l.flatMap kW).length≤l.length*4:=by
  intro l
  induction l with
  | nil=>intro _;simp
  | cons r l ih =>
   intro h
   have h1:=h r List.mem_cons_self
   have h2:=ih fun z hz=>h z (List.mem_cons_of_mem _ hz)
   rw [List.flatMap_cons,List.length_append,fG,List.length_cons];omega
 have:=key (Gc x).routes (fun r h=>by
  obtain ⟨l,rfl,_,_,_,h5⟩:=Qy h
  unfold Nr;rw [List.length_map];omega)
 unfold fF
 omega
end Go.Proofs.YtngdgnolkilheaaGreatDoor
namespace Go.Proofs.YtngdgnolkilheaaGreatDoor
open Go Go.Ex Go.RowKit Go.Proofs.Tryz
theorem rino_ok {G:Ghost} {v:Value} {l:List Nat} {x:Nat} {n:Nat} (hl:l.length=n) (hn:n≤1000000) :
  Ai prog 82 [v,Vi (x:Int)] G [.row 3 1 v n (l.map Co)] fun r _ H'=>r=.bool (decide (x∈l))∧H'=[.row 3 1 v n (l.map Co)]:=by
 subst hl
 refine Ai.of_T [(0,_),(1,_)] func82 rfl ntmps82 sM rfl fun w0 hs =>Wt 9 [0,0] hs rfl<|Zl [0,1,5] (fun m E w=>∃ (k:Nat) (G2:Ghost),k≤l.length∧x∉l.take k∧m=l.length-k∧E=⟨[],[(0,v),(1,Vi (x:Int)),(5,Vi (k:Int))]⟩∧St ⟨w0,G,Bl [.row 3 1 v l.length (l.map Co)]⟩ G2 [.row 3 1 v l.length (l.map Co)] w) rfl (⟨0,_,by omega,by simp,rfl,rfl,hs⟩) fun m E w hI=>?_
 obtain ⟨k,G2,hk,hx,rfl,rfl,hs⟩:=hI
 refine Wt 5 [] hs rfl<|Zy hs (Du 0 rfl underlying33 rfl hs<|Zy hs (Yc rfl (fun h9=>?_) fun h9=>?_))
 ·
  refine Wp 9 [0] hs rfl<|Zy hs (He (j:=((k:Nat):Int)) (k) 0 rfl underlying33 sizeOf3 rfl rfl rfl oM (u:=Co (l[k]'oM)) (Mp oM) hs fun p14 hp14 =>Zy hs (Ir isAgg3 rfl hp14<|Wp 1 [] hs rfl<|Zy hs (Yc rfl (fun h17=>?_) fun h17=>?_)))
  ·
   refine Wp 6 [0,0] hs rfl<|Ah<|Zz results82 rfl ?_
   exact ⟨_,_,hs,congrArg Value.bool (decide_eq_true (by rw [show x=l[k] from by omega];exact List.getElem_mem _)).symm,rfl⟩
  refine Wp 5 [0] hs rfl<|Zy hs (Ya (s:=((k+1:Nat):Int)) rfl<|Wp 1 [] hs rfl<|Zx [0,1,5] rfl ⟨k+1,_,by omega,by rw [Ed oM];intro h;rcases List.mem_append.1 h with h | h;exact hx h;exact h17 (by rw [List.mem_singleton.1 h]),rfl,rfl,hs⟩)
 refine Wp 3 [0] hs rfl<|Wu 4 [0] hs rfl<|Ah<|Zz results82 rfl ?_
 obtain rfl:k=l.length:=by omega
 rw [List.take_length] at hx
 exact ⟨_,_,hs,congrArg Value.bool (decide_eq_false hx).symm,rfl⟩
def Ow (es:List (Int×Int)) (l:List Nat) (k:Nat):List Nat:=(List.range k).filter fun k:Nat=>decide ((((l.getLastD 0:Nat):Int),(k:Int))∈es) && !(l.contains k)
theorem optsK_T {es:List (Int×Int)} {l:List Nat} {k:Nat} (h1:(((l.getLastD 0:Nat):Int),(k:Int))∈es) (h2:k∉l):Ow es l (k+1)=Ow es l k++[k]:=by
  unfold Ow;rw [List.range_succ,List.filter_append];simp only [List.filter_cons,List.filter_nil]
  rw [if_pos (by rw [Bool.and_eq_true];exact ⟨decide_eq_true h1,by simpa using h2⟩)]
theorem pY {es:List (Int×Int)} {l:List Nat} {k:Nat} (h:¬ ((((l.getLastD 0:Nat):Int),(k:Int))∈es∧k∉l)):Ow es l (k+1)=Ow es l k:=by
  unfold Ow;rw [List.range_succ,List.filter_append];simp only [List.filter_cons,List.filter_nil]
  rw [if_neg bP,List.append_nil]
theorem jY (es:List (Int×Int)) (l:List Nat) (k:Nat):(Ow es l k).length≤k:=by
  unfold Ow;exact Nat.le_trans (List.length_filter_le _ _) sM
theorem tB (es:List (Int×Int)) (l:List Nat) (n:Nat):Ow es l n=Dw es n l:=rfl
theorem yX {l:List Nat} (h:1≤l.length):(l.map Co)[l.length-1]?=some (Co (l.getLastD 0)):=by
  rw [List.getElem?_map,List.getLastD_eq_getLast?,List.getLast?_eq_getElem?]
  rw [List.getElem?_eq_getElem oM];rfl
theorem pZ {es:List (Int×Int)} {n f x:Nat} {l:List Nat} (h1:l.length<n) (h2:¬ Dw es n l=[]) (h3:¬ (1<l.length∧x % 4=3)):Jb es n (f+1) l x=Jb es n f (l++[(Dw es n l).getD (x / 4 % (Dw es n l).length) 0]) ((x / 8+x*8191) % 65536):=by
  rw [Jb,if_neg oM,if_neg (by rintro (h | h);exact h2 h;exact h3 h)]
theorem Uu {es:List (Int×Int)} {n f x:Nat} {l:List Nat} (h:n≤l.length∨Dw es n l=[]∨(1<l.length∧x % 4=3)):Jb es n f l x=l:=by
  cases f with
  | zero=>rfl
  | succ f =>
    rw [Jb]
    split
    · rfl
    · rename_i h1
      rw [if_pos (by rcases h with h | h | h;exact absurd h h1;exact .inl h;exact .inr h)]
def tC (l:List Nat) (i:Nat):Nat:=l.getD i 0
theorem jZ {l:List Nat} {i:Nat} (h:i<l.length):(l.map Co)[i]?=some (Co (tC l i)):=by
  unfold tC;rw [List.getElem?_map,List.getElem?_eq_getElem h,pW h];rfl
theorem rrou_ok {G:Ghost} {x0:Nat} {wp wr:Value} {An Ae:Option Addr} {nn cn ce:Nat} {es:List (Int×Int)} (hE:kT G (.slice Ae es.length ce) es) (hez:es.length≤1000) (hx0:x0<65536) (hn2:2≤nn) (hn12:nn≤12) :
  Ai prog 53 [.agg #[wp,.slice An nn cn,.slice Ae es.length ce,wr],.int .u16 (x0:Int)] G [] fun r G' H'=>H'=[]∧Cc G' r (Fg es nn x0):=by
 refine Ai.of_T [(0,_),(1,_)] func53 rfl ntmps53 sM rfl fun w0 hs=>?_
 have hE0:=hE
 refine Wt 2 [] hs rfl<|O_s (Sb hs rfl fun b2 _ hs=>Wp 12 [0,1,0,0] hs rfl<|Zy hs (Dl underlying25 underlying3 (c:=(x0:Int)) rfl Z42<|Wp 1 [] hs rfl<|Zy hs (Fp (c:=((nn-1:Nat):Int)) rfl rfl oM oM<|Zy hs (Es (c:=((x0 % (nn-1):Nat):Int)) rfl rfl oM oM (Int.natCast_emod _ _).symm<|O_s (Bw hs underlying33 sizeOf3 zeroValue3 rfl rfl dC dC rfl (cs:=[_]) rfl rfl fun v1 _ hs _ =>Wp 5 [0] hs rfl<|Zy hs (Yo (c:=((x0 / 5:Nat):Int)) rfl rfl oM oM Z49<|Wp 2 [0] hs rfl ?_))))))
 have hs:=hs.f1.f1
 refine Wu 1 [] hs rfl<|Zl [1,2,5,6] (fun m E w=>∃ (l:List Nat) (x:Nat) (vr:Value) (G2:Ghost),Jb es nn nn [x0 % (nn-1)] (x0 / 5)=Jb es nn (nn+1-l.length) l x∧1≤l.length∧l.length≤nn∧x<65536∧m=nn-l.length∧E=⟨[],[(1,.int .u16 (x:Int)),(2,Vp b2),(5,Vi (nn:Int)),(6,vr)]⟩∧St ⟨w0,G,Bl []⟩ G2 [.row 3 1 vr l.length (l.map Co),.blk b2 43 [wp,.slice An nn cn,.slice Ae es.length ce,wr]] w) rfl (⟨[x0 % (nn-1)],x0 / 5,_,_,rfl,by simp,by simp;omega,by omega,rfl,rfl,hs⟩) fun m E w hI=>?_
 obtain ⟨l,x,vr,G2,hfo,hl1,hln,hx,rfl,rfl,hs⟩:=hI
 have hE:=hE0.mono hs.le
 refine Wt 4 [] hs rfl<|Zy hs (Du 0 rfl underlying33 rfl hs<|Wp 1 [] hs rfl<|Zy hs (Yc rfl (fun h24=>?_) fun h24=>?_))
 ·
  refine Wp 8 [0] hs rfl<|Zy hs (Du 0 rfl underlying33 rfl hs<|Zy hs (Fp (c:=((l.length-1:Nat):Int)) rfl rfl oM oM<|Zy hs (He (j:=((l.length-1:Nat):Int)) (l.length-1) 0 rfl underlying33 sizeOf3 rfl rfl rfl oM (u:=Co (l.getLastD 0)) (yX hl1) hs fun p29 hp29 =>Zy hs (Ir isAgg3 rfl hp29<|Wp 4 [0] hs rfl<|O_s (Bw hs underlying33 sizeOf3 zeroValue3 rfl rfl dC dC rfl (cs:=[]) rfl rfl fun v2 _ hs _ =>Wp 7 [0,0] hs rfl ?_)))))
  have hs:=hs.f2.f2.f2
  refine Zl [1,2,5,6,7,8,9] (fun m E w=>∃ (k:Nat) (vo:Value) (G2:Ghost),k≤nn∧m=nn-k∧E=⟨[],[(1,.int .u16 (x:Int)),(2,Vp b2),(5,Vi (nn:Int)),(6,vr),(7,Vi ((l.getLastD 0):Int)),(8,vo),(9,Vi (k:Int))]⟩∧St ⟨w0,G,Bl []⟩ G2 [.row 3 1 vo (Ow es l k).length ((Ow es l k).map Co),.row 3 1 vr l.length (l.map Co),.blk b2 43 [wp,.slice An nn cn,.slice Ae es.length ce,wr]] w) rfl (⟨0,_,_,by omega,rfl,rfl,hs⟩) fun m E w hI=>?_
  obtain ⟨k,vo,G2,hk,rfl,rfl,hs⟩:=hI
  have hE:=hE0.mono hs.le
  refine Wt 5 [] hs rfl<|Zy hs (Yc rfl (fun h34=>?_) fun h34=>?_)
  ·
   refine Wp 10 [0,2] hs rfl<|O_s (Sc (redg_ok hE hez) hs rfl fun v3 G' H' _ hR hG40 hs=>?_)
   obtain ⟨rfl,rfl⟩:=hR
   replace hs:=hs.n rfl
   refine Zy hs (Yc rfl (fun h41=>?_) fun h41=>?_)
   ·
    refine Wp 3 [] hs rfl<|Cl 42 rfl rfl (Sc (rino_ok (l:=l) (x:=k) rfl oM) hs.f1 rfl fun v4 G' H' _ hR hG45 hs=>?_)
    obtain ⟨rfl,rfl⟩:=hR
    replace hs:=hs.n rfl
    cases h45:decide (k∈l)
    ·
     refine Wp 7 [0] hs rfl<|O_s (Bw hs underlying33 sizeOf3 zeroValue3 rfl rfl dC dC rfl (cs:=[_]) rfl rfl fun v5 _ hs _=>?_)
     obtain ⟨_,hG50,hl50,hs⟩:=hs.fixRow noM
     refine O_s (Bf hs.f1 underlying33 Ko rfl dC rfl rfl (hl50) (Fh rfl) (by have:=jY es l k;omega) (by have:=jY es l k;omega) fun v6 _ hs =>Wp 4 [7,1,2,5,6,7,8,9] hs rfl<|Zy hs (Ya (s:=((k+1:Nat):Int)) rfl<|Wp 1 [] hs rfl ?_))
     have hs:=hs.f2.f2.f2
     refine Zx [1,2,5,6,7,8,9] rfl ⟨k+1,_,_,by omega,rfl,rfl,Bz (hs.weak hs.le (Cj _) (Ea [_,_,_] _)) (by rw [optsK_T ((fN _ _).1 h41) (of_decide_eq_false h45)];simp [Co])⟩
    refine Wp 7 [0] hs rfl<|Zy hs (Ya (s:=((k+1:Nat):Int)) rfl<|Wp 1 [] hs rfl ?_)
    have hs:=hs.f2.f1.f2
    refine Zx [1,2,5,6,7,8,9] rfl ⟨k+1,_,_,by omega,rfl,rfl,Bz (hs) (by rw [pY (fun h=>h.2 (of_decide_eq_true h45))])⟩
   refine Wp 11 [0] hs rfl<|Zy hs (Ya (s:=((k+1:Nat):Int)) rfl<|Wp 1 [] hs rfl ?_)
   have hs:=hs.f2.f2.f2
   refine Zx [1,2,5,6,7,8,9] rfl ⟨k+1,_,_,by omega,rfl,rfl,Bz (hs) (by rw [pY (fun h=>h41 ((fN _ _).2 h.1))])⟩
  refine Wp 3 [0] hs rfl ?_
  have hkn:k=nn:=by omega
  rw [hkn,tB] at hs
  refine Wu 4 [] hs rfl<|Zy hs (Du 0 rfl underlying33 rfl hs<|Zy hs (Yc rfl (fun h54=>?_) fun h54=>?_))
  ·
   refine Wp 5 [] hs rfl<|Eg 59 rfl rfl<|Eg 59 rfl rfl<|Eg 59 rfl rfl<|Wp 5 [0] hs rfl<|Wu 5 [0] hs rfl<|Ah ?_
   have hs:=hs.f1
   obtain ⟨_,hG_hfr,hfr,hs⟩:=hs.fixRow noM
   refine Zz results53 rfl ?_
   have hfin:Fg es nn x0=l:=by rw [show Fg es nn x0=Jb es nn nn [x0 % (nn-1)] (x0 / 5) from rfl,hfo];exact Uu (.inr (.inl (List.eq_nil_of_length_eq_zero oM)))
   exact ⟨_,[],hs.done,rfl,by rw [hfin];exact hfr⟩
  refine Wp 2 [] hs rfl<|Zg hs rfl (Du 1 rfl underlying33 rfl hs<|Zg hs rfl (Yc rfl (fun h58=>?_) fun h58=>?_))
  ·
   refine Wp 2 [] hs rfl<|Zg hs rfl (Es (c:=((x % 4:Nat):Int)) rfl rfl oM oM oM<|Zg hs rfl (Yc rfl (fun h62=>?_) fun h62=>?_))
   ·
    refine Wp 5 [0] hs rfl<|Wu 5 [1,4] hs rfl<|Ah ?_
    have hs:=hs.f1
    obtain ⟨_,hG_hfr,hfr,hs⟩:=hs.fixRow noM
    refine Zz results53 rfl ?_
    have hfin:Fg es nn x0=l:=by rw [show Fg es nn x0=Jb es nn nn [x0 % (nn-1)] (x0 / 5) from rfl,hfo];exact Uu (.inr (.inr oM))
    exact ⟨_,[],hs.done,rfl,by rw [hfin];exact hfr⟩
   refine Wp 5 [0] hs rfl ?_
   have hopos:0<(Dw es nn l).length:=by omega
   have hol:x / 4 % (Dw es nn l).length<(Dw es nn l).length:=Nat.mod_lt _ hopos
   have hou:=jZ hol
   have hgo:=pZ (es:=es) (n:=nn) (f:=nn-l.length) (x:=x) (l:=l) oM (fun e=>by rw [e] at hopos;exact absurd hopos sM) oM
   refine Wu 5 [] hs rfl<|Zy hs (Yo (c:=((x / 4:Nat):Int)) rfl rfl oM oM Z49<|Zy hs (Dl underlying25 underlying3 (c:=((x / 4:Nat):Int)) rfl Z42<|Wp 1 [] hs rfl<|Zy hs (Du 0 rfl underlying33 rfl hs<|Zy hs (Es (c:=((x / 4 % (Dw es nn l).length:Nat):Int)) rfl rfl oM oM (Int.natCast_emod _ _).symm<|Zy hs (He (j:=((x / 4 % (Dw es nn l).length:Nat):Int)) (x / 4 % (Dw es nn l).length) 0 rfl underlying33 sizeOf3 rfl rfl rfl hol (u:=Co (tC (Dw es nn l) (x / 4 % (Dw es nn l).length))) hou hs fun p73 hp73 =>Zy hs (Ir isAgg3 rfl hp73<|O_s (Bw hs underlying33 sizeOf3 zeroValue3 rfl rfl dC dC rfl (cs:=[_]) rfl rfl fun v7 _ hs _=>?_)))))))
   obtain ⟨_,hG75,hl75,hs⟩:=hs.fixRow noM
   refine O_s (Bf hs.f1 underlying33 Ko rfl dC rfl rfl (hl75) (Fh rfl) oM Lk fun v8 _ hs =>Wp 4 [4,1,2,5,6] hs rfl<|Zy hs (Yo (c:=((x / 8:Nat):Int)) rfl rfl oM oM Z49<|Wp 1 [] hs rfl<|Zy hs (uK (c:=((x*8191 % 65536:Nat):Int)) rfl rfl Z49<|Zy hs (uJ (c:=(((x / 8+x*8191) % 65536:Nat):Int)) rfl rfl Z49<|Wp 1 [] hs rfl ?_))))
   have hs:=hs.f2.f1
   refine Cm ⟨_,?_,[(1,_),(2,_),(5,_),(6,_)],⟨rfl,rfl,rfl,rfl,trivial⟩,⟨l++[tC (Dw es nn l) (x / 4 % (Dw es nn l).length)],(x / 8+x*8191) % 65536,v8,_,by rw [hfo,show nn+1-l.length=(nn-l.length)+1 from by omega,hgo,List.length_append,List.length_singleton,show nn+1-(l.length+1)=nn-l.length from by omega];rfl,by simp,by simp;omega,by omega,rfl,rfl,Bz (hs.weak hs.le (Cj _) (Ea [_,_] _)) (by simp [Co])⟩⟩
   (simp;omega)
  refine Wp 9 [0] hs rfl ?_
  have hopos:0<(Dw es nn l).length:=by omega
  have hol:x / 4 % (Dw es nn l).length<(Dw es nn l).length:=Nat.mod_lt _ hopos
  have hou:=jZ hol
  have hgo:=pZ (es:=es) (n:=nn) (f:=nn-l.length) (x:=x) (l:=l) oM (fun e=>by rw [e] at hopos;exact absurd hopos sM) oM
  refine Wu 5 [] hs rfl<|Zy hs (Yo (c:=((x / 4:Nat):Int)) rfl rfl oM oM Z49<|Zy hs (Dl underlying25 underlying3 (c:=((x / 4:Nat):Int)) rfl Z42<|Wp 1 [] hs rfl<|Zy hs (Du 0 rfl underlying33 rfl hs<|Zy hs (Es (c:=((x / 4 % (Dw es nn l).length:Nat):Int)) rfl rfl oM oM (Int.natCast_emod _ _).symm<|Zy hs (He (j:=((x / 4 % (Dw es nn l).length:Nat):Int)) (x / 4 % (Dw es nn l).length) 0 rfl underlying33 sizeOf3 rfl rfl rfl hol (u:=Co (tC (Dw es nn l) (x / 4 % (Dw es nn l).length))) hou hs fun p73 hp73 =>Zy hs (Ir isAgg3 rfl hp73<|O_s (Bw hs underlying33 sizeOf3 zeroValue3 rfl rfl dC dC rfl (cs:=[_]) rfl rfl fun v9 _ hs _=>?_)))))))
  obtain ⟨_,hG75,hl75,hs⟩:=hs.fixRow noM
  refine O_s (Bf hs.f1 underlying33 Ko rfl dC rfl rfl (hl75) (Fh rfl) oM Lk fun v10 _ hs =>Wp 4 [4,1,2,5,6] hs rfl<|Zy hs (Yo (c:=((x / 8:Nat):Int)) rfl rfl oM oM Z49<|Wp 1 [] hs rfl<|Zy hs (uK (c:=((x*8191 % 65536:Nat):Int)) rfl rfl Z49<|Zy hs (uJ (c:=(((x / 8+x*8191) % 65536:Nat):Int)) rfl rfl Z49<|Wp 1 [] hs rfl ?_))))
  have hs:=hs.f2.f1
  refine Cm ⟨_,?_,[(1,_),(2,_),(5,_),(6,_)],⟨rfl,rfl,rfl,rfl,trivial⟩,⟨l++[tC (Dw es nn l) (x / 4 % (Dw es nn l).length)],(x / 8+x*8191) % 65536,v10,_,by rw [hfo,show nn+1-l.length=(nn-l.length)+1 from by omega,hgo,List.length_append,List.length_singleton,show nn+1-(l.length+1)=nn-l.length from by omega];rfl,by simp,by simp;omega,by omega,rfl,rfl,Bz (hs.weak hs.le (Cj _) (Ea [_,_] _)) (by simp [Co])⟩⟩
  (simp;omega)
 refine Wp 3 [0] hs rfl<|Wu 5 [0] hs rfl<|Ah ?_
 obtain ⟨_,hG_hfr,hfr,hs⟩:=hs.fixRow noM
 refine Zz results53 rfl ?_
 have hfin:Fg es nn x0=l:=by rw [show Fg es nn x0=Jb es nn nn [x0 % (nn-1)] (x0 / 5) from rfl,hfo];exact Uu (.inl oM)
 exact ⟨_,[],hs.done,rfl,by rw [hfin];exact hfr⟩
theorem PL43:places prog 43=some [(0,1),(1,1),(2,1),(3,1)]:=by kernel_rfl
theorem PL76:places prog 76=some [(0,1),(1,1),(2,1),(3,1)]:=by kernel_rfl
theorem TI102:TI prog 102 (.agg #[Vn,Vn]) 2 48:=TI.of kR
theorem TI70:TI prog 70 (.agg #[Vi 0,Vi 0]) 2 16:=TI.of kR
theorem TI76:TI prog 76 (.agg #[Vn,Vi 0,Vi 0,Vf]) 4 48:=TI.of kR
def aY (sz p0 p1 p2 p3 n0 n1 n2 n3 n4:UInt8) (ed r0 r1 r2:Nat):Ut:=⟨sz.toNat,[p0.toNat,p1.toNat,p2.toNat,p3.toNat],[n0.toNat,n1.toNat,n2.toNat,n3.toNat,n4.toNat],ed,[r0,r1,r2]⟩
theorem fT {sz p0 p1 p2 p3 n0 n1 n2 n3 n4:UInt8} {ed r0 r1 r2:Nat} (h0:r0<65536) (h1:r1<65536) (h2:r2<65536):Ut.ok (aY sz p0 p1 p2 p3 n0 n1 n2 n3 n4 ed r0 r1 r2):=⟨rfl,rfl,rfl,fun z hz=>by
  have hz':z∈[r0,r1,r2]:=hz
  simp only [List.mem_cons,List.not_mem_nil,or_false] at hz'
  rcases hz' with rfl | rfl | rfl<;>assumption⟩
theorem raw_p {sz p0 p1 p2 p3 n0 n1 n2 n3 n4:UInt8} {ed r0 r1 r2:Nat} {i:Nat} (h:i<Jx sz.toNat):∃ q:UInt8,([.int .u8 (sz.toNat:Int),.int .u8 (p0.toNat:Int),.int .u8 (p1.toNat:Int),.int .u8 (p2.toNat:Int),.int .u8 (p3.toNat:Int),.int .u8 (n0.toNat:Int),.int .u8 (n1.toNat:Int),.int .u8 (n2.toNat:Int),.int .u8 (n3.toNat:Int),.int .u8 (n4.toNat:Int),.int .u32 (ed:Int),.int .u16 (r0:Int),.int .u16 (r1:Int),.int .u16 (r2:Int)]:List Value)[1+i*1]?=some (.int .u8 (q.toNat:Int))∧(Gc (aY sz p0 p1 p2 p3 n0 n1 n2 n3 n4 ed r0 r1 r2)).progs[i]?=some (Di (q.toNat % 14)):=by
  have h4:=(Ti sz.toNat).2
  have e:(Gc (aY sz p0 p1 p2 p3 n0 n1 n2 n3 n4 ed r0 r1 r2)).progs[i]?=(([p0.toNat,p1.toNat,p2.toNat,p3.toNat]:List Nat)[i]?).map fun k=>Di (k % 14):=by
    show (List.map _ (List.take (Jx sz.toNat) _))[i]?=_
    rw [List.getElem?_map,List.getElem?_take_of_lt h];rfl
  rw [e]
  match i,h with
  | 0,_=>exact ⟨p0,rfl,rfl⟩
  | 1,_=>exact ⟨p1,rfl,rfl⟩
  | 2,_=>exact ⟨p2,rfl,rfl⟩
  | 3,_=>exact ⟨p3,rfl,rfl⟩
  | i+4,h=>omega
theorem raw_n {sz p0 p1 p2 p3 n0 n1 n2 n3 n4:UInt8} {ed r0 r1 r2:Nat} {i:Nat} (h:i<Eh sz.toNat):∃ q:UInt8,([.int .u8 (sz.toNat:Int),.int .u8 (p0.toNat:Int),.int .u8 (p1.toNat:Int),.int .u8 (p2.toNat:Int),.int .u8 (p3.toNat:Int),.int .u8 (n0.toNat:Int),.int .u8 (n1.toNat:Int),.int .u8 (n2.toNat:Int),.int .u8 (n3.toNat:Int),.int .u8 (n4.toNat:Int),.int .u32 (ed:Int),.int .u16 (r0:Int),.int .u16 (r1:Int),.int .u16 (r2:Int)]:List Value)[5+i*1]?=some (.int .u8 (q.toNat:Int))∧(Gc (aY sz p0 p1 p2 p3 n0 n1 n2 n3 n4 ed r0 r1 r2)).nodes[i]?=some (Qx (Jx sz.toNat) q.toNat):=by
  have h4:=(Kz sz.toNat).2
  have e:(Gc (aY sz p0 p1 p2 p3 n0 n1 n2 n3 n4 ed r0 r1 r2)).nodes[i]?=(([n0.toNat,n1.toNat,n2.toNat,n3.toNat,n4.toNat]:List Nat)[i]?).map (Qx (Jx sz.toNat)):=by
    show (List.map _ (List.take (Eh sz.toNat) _))[i]?=_
    rw [List.getElem?_map,List.getElem?_take_of_lt h];rfl
  rw [e]
  match i,h with
  | 0,_=>exact ⟨n0,rfl,rfl⟩
  | 1,_=>exact ⟨n1,rfl,rfl⟩
  | 2,_=>exact ⟨n2,rfl,rfl⟩
  | 3,_=>exact ⟨n3,rfl,rfl⟩
  | 4,_=>exact ⟨n4,rfl,rfl⟩
  | i+5,h=>omega
theorem raw_r {sz p0 p1 p2 p3 n0 n1 n2 n3 n4:UInt8} {ed r0 r1 r2:Nat} (h0:r0<65536) (h1:r1<65536) (h2:r2<65536) {i:Nat} (h:i<Pw sz.toNat):∃ q:Nat,q<65536∧([.int .u8 (sz.toNat:Int),.int .u8 (p0.toNat:Int),.int .u8 (p1.toNat:Int),.int .u8 (p2.toNat:Int),.int .u8 (p3.toNat:Int),.int .u8 (n0.toNat:Int),.int .u8 (n1.toNat:Int),.int .u8 (n2.toNat:Int),.int .u8 (n3.toNat:Int),.int .u8 (n4.toNat:Int),.int .u32 (ed:Int),.int .u16 (r0:Int),.int .u16 (r1:Int),.int .u16 (r2:Int)]:List Value)[11+i*1]?=some (.int .u16 (q:Int))∧(Gc (aY sz p0 p1 p2 p3 n0 n1 n2 n3 n4 ed r0 r1 r2)).routes[i]?=some (Nr (Fg (Ee ed (Eh sz.toNat)) (Eh sz.toNat) q)):=by
  have h4:=(Tj sz.toNat).2
  have e:(Gc (aY sz p0 p1 p2 p3 n0 n1 n2 n3 n4 ed r0 r1 r2)).routes[i]?=(([r0,r1,r2]:List Nat)[i]?).map fun r=>Nr (Fg (Ee ed (Eh sz.toNat)) (Eh sz.toNat) r):=by
    show (List.map _ (List.take (Pw sz.toNat) _))[i]?=_
    rw [List.getElem?_map,List.getElem?_take_of_lt h];rfl
  rw [e]
  match i,h with
  | 0,_=>exact ⟨r0,by assumption,rfl,rfl⟩
  | 1,_=>exact ⟨r1,by assumption,rfl,rfl⟩
  | 2,_=>exact ⟨r2,by assumption,rfl,rfl⟩
  | i+3,h=>omega
theorem Po {α:Type} {l:List α} {i:Nat} {a:α} (h:l[i]?=some a):l.take (i+1)=l.take i++[a]:=by rw [List.take_add_one,h];rfl
theorem pM.slices {G:Ghost} {a b:Value} {p:By} (h:pM G [a,b] p):∃ A1 k1 A2 k2,a=.slice A1 p.stmts.length k1∧b=.slice A2 p.blocks.length k2:=by
  obtain ⟨u,v,e,⟨h1,_⟩,⟨h2,_⟩⟩:=h
  injection e with e1 e2
  injection e2 with e2 _
  subst e1 e2
  obtain ⟨A1,k1,rfl⟩:=Be.slice h1
  obtain ⟨A2,k2,rfl⟩:=Be.slice h2
  exact ⟨_,_,_,_,rfl,rfl⟩
theorem gt_iff {z:Nat}:Gq .gtr (z:Int) 0↔decide (0<z)=true:=by
  rw [decide_eq_true_iff];show (z:Int)>0↔_;omega
theorem shr32 (a k:Nat) (hk:k<32):(a:Int).fdiv (2 ^ (min ((k:Int)).toNat IntKind.u32.bits))=((a / 2 ^ k:Nat):Int):=by
  have h1:min ((k:Int)).toNat IntKind.u32.bits=k:=by show min ((k:Int)).toNat 32=k;omega
  rw [h1,Int.fdiv_eq_ediv_of_nonneg _ (Int.pow_nonneg dC)]
  push_cast;rfl
def kX (e n i:Nat):List (Int×Int):=(List.range i).flatMap fun i=>Mw e i n
def kA (e i k:Nat):List (Int×Int):=((List.range k).filter (Ie e i)).map fun k:Nat=>((i:Int),(k:Int))
theorem kB (e n i:Nat):kX e n (i+1)=kX e n i++kA e i n:=by
  unfold kX;rw [List.range_succ,List.flatMap_append];simp [Mw,kA]
theorem edQ_T {e i k:Nat} (h:Ie e i k=true):kA e i (k+1)=kA e i k++[((i:Int),(k:Int))]:=by
  unfold kA;rw [List.range_succ,List.filter_append];simp [h]
theorem yY {e i k:Nat} (h:Ie e i k=false):kA e i (k+1)=kA e i k:=by
  unfold kA;rw [List.range_succ,List.filter_append];simp [h]
theorem mZ (e i k:Nat):(kA e i k).length≤k:=by
  unfold kA;rw [List.length_map];exact Nat.le_trans (List.length_filter_le _ _) sM
theorem aZ (e n:Nat):∀ i,(kX e n i).length≤i*n
  | 0=>by simp [kX]
  | i+1=>by rw [kB,List.length_append,Nat.succ_mul];have:=aZ e n i;have:=mZ e i n;omega
theorem on_no {e i k:Nat} (h:i=k):Ie e i k=false:=by unfold Ie;simp [h]
theorem on_next {e i k:Nat} (h:k=i+1):Ie e i k=true:=by unfold Ie;subst h;simp
theorem yZ {e i k:Nat} (h:¬ i=k) (h2:¬ k=i+1):Ie e i k=decide (e / 2 ^ (5*i+k) % 2=1):=by unfold Ie;simp [h,h2]
theorem tD {np q j:Nat} (h:j<Jm q):(Li np q).take (j+1)=(Li np q).take j++[(((q / 24+j*(1+q / 96 % 2)) % np:Nat):Int)]:=by
  refine Po ?_
  unfold Li
  rw [List.getElem?_map,List.getElem?_range h];rfl
theorem bA (np q:Nat):(Li np q).length=Jm q:=by unfold Li;simp
theorem tE {G:Ghost} {v:Value} {np q:Nat} (h:Sl G v 1 (Jm q) ((Li np q).map (.int .i64))):Bt G v (Li np q):=by unfold Bt;rw [bA];exact h
theorem rmad_ok {G:Ghost} {sz p0 p1 p2 p3 n0 n1 n2 n3 n4:UInt8} {ed r0 r1 r2:Nat} (he:ed<4294967296) (h0:r0<65536) (h1:r1<65536) (h2:r2<65536) :
  Ai prog 28 [.agg #[.int .u8 (sz.toNat:Int),.int .u8 (p0.toNat:Int),.int .u8 (p1.toNat:Int),.int .u8 (p2.toNat:Int),.int .u8 (p3.toNat:Int),.int .u8 (n0.toNat:Int),.int .u8 (n1.toNat:Int),.int .u8 (n2.toNat:Int),.int .u8 (n3.toNat:Int),.int .u8 (n4.toNat:Int),.int .u32 (ed:Int),.int .u16 (r0:Int),.int .u16 (r1:Int),.int .u16 (r2:Int)]] G [] fun r G' H'=>H'=[]∧mR G' r (Gc (aY sz p0 p1 p2 p3 n0 n1 n2 n3 n4 ed r0 r1 r2)):=by
 obtain ⟨f,hfe⟩:∃ f,f=Gc (aY sz p0 p1 p2 p3 n0 n1 n2 n3 n4 ed r0 r1 r2):=⟨_,rfl⟩
 have hok:=fT (sz:=sz) (p0:=p0) (p1:=p1) (p2:=p2) (p3:=p3) (n0:=n0) (n1:=n1) (n2:=n2) (n3:=n3) (n4:=n4) (ed:=ed) (r0:=r0) (r1:=r1) (r2:=r2) h0 h1 h2
 have hrp:=fun i (h:i<(Jx sz.toNat))=>raw_p (sz:=sz) (p0:=p0) (p1:=p1) (p2:=p2) (p3:=p3) (n0:=n0) (n1:=n1) (n2:=n2) (n3:=n3) (n4:=n4) (ed:=ed) (r0:=r0) (r1:=r1) (r2:=r2) h
 have hrn:=fun i (h:i<(Eh sz.toNat))=>raw_n (sz:=sz) (p0:=p0) (p1:=p1) (p2:=p2) (p3:=p3) (n0:=n0) (n1:=n1) (n2:=n2) (n3:=n3) (n4:=n4) (ed:=ed) (r0:=r0) (r1:=r1) (r2:=r2) h
 have hrr:=fun i (h:i<(Pw sz.toNat))=>raw_r (sz:=sz) (p0:=p0) (p1:=p1) (p2:=p2) (p3:=p3) (n0:=n0) (n1:=n1) (n2:=n2) (n3:=n3) (n4:=n4) (ed:=ed) (r0:=r0) (r1:=r1) (r2:=r2) h0 h1 h2 h
 have hfp:f.progs.length=(Jx sz.toNat):=by rw [hfe,fQ hok];rfl
 have hfn:f.nodes.length=(Eh sz.toNat):=by rw [hfe,fP hok];rfl
 have hfrl:f.routes.length=(Pw sz.toNat):=by rw [hfe,fR hok];rfl
 have hfed:f.edges=Ee ed (Eh sz.toNat):=by rw [hfe];rfl
 simp only [← hfe] at hrp hrn hrr
 have hpc:=Ti sz.toNat
 have hnc:=Kz sz.toNat
 have hrc:=Tj sz.toNat
 have hsz:=sz.toNat_lt
 have hed25:f.edges.length≤25:=by rw [hfed];exact Nat.le_trans (aZ ed (Eh sz.toNat) (Eh sz.toNat)) (Nat.mul_le_mul hnc.2 hnc.2)
 refine Ai.of_T [(0,_)] func28 rfl ntmps28 sM rfl fun w0 hs =>Wt 2 [] hs rfl<|O_s (Sb hs rfl fun b1 _ hs=>O_s (Sa hs zeroValue43 rfl fun b2 _ hs=>Wp 3 [0] hs rfl<|Zy hs (Ba zeroValue43 rfl PL43 rfl (cs:=[_,_,_,_]) rfl<|O_s (Sa hs zeroValue43 rfl fun b3 _ hs=>O_n (Em hs sizeOf43 rfl rfl (vs:=[_,_,_,_]) rfl (rfl) sM (cs':=[_,_,_,_]) rfl fun _ hs =>Wp 6 [0,0] hs rfl ?_)))))
 have hs:=hs.nilRow 102 2
 have hs:=hs.f2.f3.f3.f3
 refine Zl [1,2,3,4] (fun m E w=>∃ (i:Nat) (vp:Value) (css:List (List Value)) (G2:Ghost),i≤(Jx sz.toNat)∧aV G2 css (f.progs.take i)∧m=(Jx sz.toNat)-i∧E=⟨[],[(1,Vp b1),(2,Vp b2),(3,Vp b3),(4,Vi (i:Int))]⟩∧St ⟨w0,G,Bl []⟩ G2 [.row 102 2 vp i css.flatten,.blk b3 43 [vp,Vn,Vn,Vn],.blk b1 28 [.int .u8 (sz.toNat:Int),.int .u8 (p0.toNat:Int),.int .u8 (p1.toNat:Int),.int .u8 (p2.toNat:Int),.int .u8 (p3.toNat:Int),.int .u8 (n0.toNat:Int),.int .u8 (n1.toNat:Int),.int .u8 (n2.toNat:Int),.int .u8 (n3.toNat:Int),.int .u8 (n4.toNat:Int),.int .u32 (ed:Int),.int .u16 (r0:Int),.int .u16 (r1:Int),.int .u16 (r2:Int)],.blk b2 43 [Vn,Vn,Vn,Vn]] w) rfl (⟨0,_,[],_,by omega,⟨trivial,by simp⟩,rfl,rfl,hs⟩) fun m E w hI=>?_
 obtain ⟨i,vp,css,G2,hi,hA,rfl,rfl,hs⟩:=hI
 refine Wt 6 [0,2] hs rfl<|Zy hs (Dl underlying5 underlying3 (c:=(sz.toNat:Int)) rfl Z42<|Zy hs (Es (c:=((sz.toNat % 3:Nat):Int)) rfl rfl oM oM oM<|Zy hs (Ef (c:=((Jx sz.toNat:Nat):Int)) rfl rfl (by unfold Jx;omega) oM<|Zy hs (Yc rfl (fun h21=>?_) fun h21=>?_))))
 ·
  refine Wp 3 [0] hs rfl ?_
  obtain ⟨q,hq,hPi⟩:=hrp i oM
  refine Wu 2 [] hs rfl<|Bb [0,1,2,3,4,5,6,7] hs kR ?_
  replace hs:=hs.drew
  refine Xr [0,1,2,3] [0,1,1] hs rfl<|Xt 4 hs rfl (Dq i underlying22 sizeOf5 rfl rfl rfl oM (m:=1+i*1) rfl<|Xt 5 hs rfl (Dc 2 isAgg5 rfl rfl hq ?_))
  have hle:=hs.le
  refine Xo 6 rfl (Sc (fM (k:=q)) hs rfl fun v1 G' H' _ hR hG30 hs=>?_)
  obtain ⟨rfl,wa,wb,rfl,hPg⟩:=hR
  replace hs:=hs.n rfl
  replace hA:=hA.mono hG30
  obtain ⟨Aa,ka,Ab,kb,rfl,rfl⟩:=hPg.slices
  refine Am hs hle hG30 (Df _) ?_
  have hle:=hs.le
  refine Xo 7 rfl (Bw hs underlying38 sizeOf102 zeroValue102 rfl rfl dC dC rfl (cs:=[_,_]) rfl rfl fun v2 _ hs _=>?_)
  obtain ⟨_,hG31,hl31,hs⟩:=hs.fixRow noM
  replace hA:=hA.mono hG31
  replace hPg:=hPg.mono hG31
  refine Am hs hle hG31 (Df _)<|Xa 8 rfl (Bf hs underlying38 TI102 rfl dC rfl rfl (hl31) ((Jv rfl)) oM oM fun v3 _ hs =>Xa 9 rfl (S_y hs rfl (Yf 0 rfl<|Xn 10 rfl (Sd hs.f1 rfl (hs.f1.rowOne 1 rfl) fun _ hs=>Xe (Zk [1,2,3,4] rfl<|Wu 2 [] hs rfl<|Zy hs (Ya (s:=((i+1:Nat):Int)) rfl<|Wp 1 [] hs rfl ?_))))))
  have hs:=hs.f3.f3.f2.f3
  refine Zx [1,2,3,4] rfl ⟨i+1,_,css++[[.slice Aa (Di (q.toNat % 14)).stmts.length ka,.slice Ab (Di (q.toNat % 14)).blocks.length kb]],_,by omega,(by rw [Po hPi];exact hA.snoc hPg rfl),rfl,rfl,yV (hs.weak hs.le (Cj _) (Ea [_,_,_,_] _)) sM⟩
 refine Wp 3 [0] hs rfl ?_
 have hin:i=(Jx sz.toNat):=by omega
 rw [hin] at hA hs
 rw [List.take_of_length_le (by rw [hfp];exact Nat.le_refl _)] at hA
 obtain ⟨_,hG_hfv,hfv,hs⟩:=hs.fixRow noM
 replace hA:=hA.mono hG_hfv
 have hPg0:sT _ _ f.progs:=hA.fin hfv hfp.symm
 obtain ⟨Ap,cp,hpe⟩:=Be.slice hPg0
 subst hpe
 refine Wu 4 [0,1] hs rfl<|Zy hs (Dl underlying5 underlying3 (c:=(sz.toNat:Int)) rfl Z42<|Zy hs (Ns (c:=((sz.toNat / 3:Nat):Int)) rfl rfl oM oM oM<|Zy hs (Es (c:=((sz.toNat / 3 % 4:Nat):Int)) rfl rfl oM oM oM<|Zy hs (Ef (c:=((Eh sz.toNat:Nat):Int)) rfl rfl (by unfold Eh;omega) oM<|Wp 7 [0,0] hs rfl ?_))))
 have hs:=hs.nilRow 76 4
 have hs:=hs.f3.f3.f3.f3
 refine Zl [1,2,3,5,6] (fun m E w=>∃ (i:Nat) (vn:Value) (css:List (List Value)) (G2:Ghost),i≤(Eh sz.toNat)∧Wb G2 css (f.nodes.take i)∧sT G2 (.slice Ap f.progs.length cp) f.progs∧m=(Eh sz.toNat)-i∧E=⟨[],[(1,Vp b1),(2,Vp b2),(3,Vp b3),(5,Vi (((Eh sz.toNat:Nat):Int))),(6,Vi (i:Int))]⟩∧St ⟨w0,G,Bl []⟩ G2 [.row 76 4 vn i css.flatten,.blk b3 43 [.slice Ap f.progs.length cp,vn,Vn,Vn],.blk b1 28 [.int .u8 (sz.toNat:Int),.int .u8 (p0.toNat:Int),.int .u8 (p1.toNat:Int),.int .u8 (p2.toNat:Int),.int .u8 (p3.toNat:Int),.int .u8 (n0.toNat:Int),.int .u8 (n1.toNat:Int),.int .u8 (n2.toNat:Int),.int .u8 (n3.toNat:Int),.int .u8 (n4.toNat:Int),.int .u32 (ed:Int),.int .u16 (r0:Int),.int .u16 (r1:Int),.int .u16 (r2:Int)],.blk b2 43 [Vn,Vn,Vn,Vn]] w) rfl (⟨0,_,[],_,by omega,⟨trivial,by simp⟩,hPg0,rfl,rfl,hs⟩) fun m E w hI=>?_
 obtain ⟨i,vn,css,G2,hi,hA,hPg0,rfl,rfl,hs⟩:=hI
 refine Wt 5 [] hs rfl<|Zy hs (Yc rfl (fun h42=>?_) fun h42=>?_)
 ·
  refine Wp 3 [0] hs rfl ?_
  obtain ⟨q,hq,hNi⟩:=hrn i oM
  have hq8:=q.toNat_lt
  refine Wu 6 [5] hs rfl<|Zy hs (Dq i underlying23 sizeOf5 rfl rfl rfl oM (m:=5+i * 1) rfl<|Zy hs (Dc 2 isAgg5 rfl rfl hq<|Zy hs (Dl underlying5 underlying3 (c:=(q.toNat:Int)) rfl Z42<|Wp 5 [0] hs rfl<|Zy hs (Es (c:=((q.toNat % 8:Nat):Int)) rfl rfl oM oM oM<|Zy hs (Qi (t:=decide (0<q.toNat % 8)) rfl rfl rfl gt_iff<|Zy hs (Ba zeroValue76 rfl PL76 rfl (cs:=[_,_,_,_]) rfl<|O_s (Sa hs zeroValue76 rfl fun b8 _ hs=>O_n (Em hs sizeOf76 rfl rfl (vs:=[_,_,_,_]) rfl (rfl) sM (cs':=[_,_,_,_]) rfl fun _ hs =>Wp 6 [0,0] hs rfl ?_))))))))
  have hs:=hs.nilRow 3 1
  have hs:=hs.f5.f5.f5.f5.f5.f5
  refine Zl [1,2,3,5,6,7,8,9] (fun m E w=>∃ (j:Nat) (vv:Value) (G2:Ghost),j≤Jm q.toNat∧Wb G2 css (f.nodes.take i)∧sT G2 (.slice Ap f.progs.length cp) f.progs∧m=Jm q.toNat-j∧E=⟨[],[(1,Vp b1),(2,Vp b2),(3,Vp b3),(5,Vi (((Eh sz.toNat:Nat):Int))),(6,Vi (i:Int)),(7,Vi (q.toNat:Int)),(8,Vp b8),(9,Vi (j:Int))]⟩∧St ⟨w0,G,Bl []⟩ G2 [.row 3 1 vv j (((Li (Jx sz.toNat) q.toNat).take j).map (.int .i64)),.blk b8 76 [vv,Vi 0,Vi 0,.bool (decide (0<q.toNat % 8))],.row 76 4 vn i css.flatten,.blk b3 43 [.slice Ap f.progs.length cp,vn,Vn,Vn],.blk b1 28 [.int .u8 (sz.toNat:Int),.int .u8 (p0.toNat:Int),.int .u8 (p1.toNat:Int),.int .u8 (p2.toNat:Int),.int .u8 (p3.toNat:Int),.int .u8 (n0.toNat:Int),.int .u8 (n1.toNat:Int),.int .u8 (n2.toNat:Int),.int .u8 (n3.toNat:Int),.int .u8 (n4.toNat:Int),.int .u32 (ed:Int),.int .u16 (r0:Int),.int .u16 (r1:Int),.int .u16 (r2:Int)],.blk b2 43 [Vn,Vn,Vn,Vn]] w) rfl (⟨0,_,_,Nat.zero_le _,hA,hPg0,rfl,rfl,hs⟩) fun m E w hI=>?_
  obtain ⟨j,vv,G2,hj,hA,hPg0,rfl,rfl,hs⟩:=hI
  refine Wt 5 [] hs rfl<|Zy hs (Ns (c:=((q.toNat / 8:Nat):Int)) rfl rfl oM oM oM<|Zy hs (Es (c:=((q.toNat / 8 % 3:Nat):Int)) rfl rfl oM oM oM<|Zy hs (Ef (c:=((Jm q.toNat:Nat):Int)) rfl rfl (by unfold Jm;omega) (by have:=Tk q.toNat;omega)<|Zy hs (Yc rfl (fun h59=>?_) fun h59=>?_))))
  ·
   refine Wp 3 [0] hs rfl ?_
   have hvc:=Tk q.toNat
   have hjb:j*(1+q.toNat / 96 % 2)≤3*2:=Nat.mul_le_mul oM oM
   refine Wu 2 [] hs rfl<|Bb [0,1,2,3,4,5,6,7,8,9,10,11,12,13,14,15] hs kR ?_
   replace hs:=hs.drew
   refine Xr [0,1,2] [0,1] hs rfl<|Xt 3 hs rfl (Ns (c:=((q.toNat / 24:Nat):Int)) rfl rfl oM oM oM<|Xr [4,5] [] hs rfl<|Xt 6 hs rfl (Ns (c:=((q.toNat / 96:Nat):Int)) rfl rfl oM oM oM<|Xt 7 hs rfl (Es (c:=((q.toNat / 96 % 2:Nat):Int)) rfl rfl oM oM oM<|Xt 8 hs rfl (Ya (s:=((1+q.toNat / 96 % 2:Nat):Int)) rfl<|Xt 9 hs rfl (Xf (c:=((j*(1+q.toNat / 96 % 2):Nat):Int)) rfl rfl (by exact (Int.natCast_mul _ _).symm) oM<|Xt 10 hs rfl (Ef (c:=((q.toNat / 24+j*(1+q.toNat / 96 % 2):Nat):Int)) rfl rfl (by exact (Int.natCast_add _ _).symm) oM<|Xr [11,12,13] [0,3] hs rfl<|Xt 14 hs rfl (Es (c:=(((q.toNat / 24+j*(1+q.toNat / 96 % 2)) % (Jx sz.toNat):Nat):Int)) rfl rfl (Int.natCast_nonneg _) oM (by rw [hfp];exact (Int.natCast_emod _ _).symm) ?_)))))))
   have hle:=hs.le
   refine Xo 15 rfl (Bw hs underlying33 sizeOf3 zeroValue3 rfl rfl dC dC rfl (cs:=[_]) rfl rfl fun v4 _ hs _=>?_)
   obtain ⟨_,hG77,hl77,hs⟩:=hs.fixRow noM
   replace hA:=hA.mono hG77
   replace hPg0:=hPg0.mono hG77
   refine Am hs hle hG77 (Df _)<|Xa 16 rfl (Bf hs underlying33 Ko rfl dC rfl rfl (hl77) (Fh rfl) oM oM fun v5 _ hs =>Xa 17 rfl (S_y hs rfl (Yf 0 rfl<|Xn 18 rfl (Sd hs.f1 rfl (hs.f1.rowOne 1 rfl) fun _ hs=>Xe (Zk [1,2,3,5,6,7,8,9] rfl<|Wu 2 [] hs rfl<|Zy hs (Ya (s:=((j+1:Nat):Int)) rfl<|Wp 1 [] hs rfl ?_))))))
   have hs:=hs.f5.f5.f5.f5.f4.f5
   refine Zx [1,2,3,5,6,7,8,9] rfl ⟨j+1,_,_,by omega,hA,hPg0,rfl,rfl,yV (hs.weak hs.le (Cj _) (Ea [_,_,_,_,_,_] _)) (by rw [tD oM,List.map_append];rfl)⟩
  refine Wp 3 [0] hs rfl ?_
  have hjv:j=Jm q.toNat:=by omega
  rw [hjv,List.take_of_length_le (by rw [bA];exact Nat.le_refl _)] at hs
  obtain ⟨_,hG_hfw,hfw,hs⟩:=hs.fixRow noM
  replace hA:=hA.mono hG_hfw
  replace hPg0:=hPg0.mono hG_hfw
  have hIv:=tE hfw
  obtain ⟨Av,cv,hve,_⟩:=id hfw
  subst hve
  have hvc:=Tk q.toNat
  refine Wu 3 [] hs rfl<|Zy hs (Ns (c:=((q.toNat / 2:Nat):Int)) rfl rfl oM oM oM<|Wp 3 [0,0] hs rfl<|Zy hs (Es (c:=((q.toNat / 2 % Jm q.toNat:Nat):Int)) rfl rfl oM oM (Int.natCast_emod _ _).symm<|Wp 1 [1] hs rfl<|O_n (Sd hs rfl rfl fun _ hs=>Wp 6 [0,1,0,2] hs rfl<|O_n (Sd hs rfl rfl fun _ hs=>Wp 5 [0,1,2,0] hs rfl<|O_s (Bw hs underlying39 sizeOf76 zeroValue76 rfl rfl dC dC rfl (cs:=[_,_,_,_]) rfl rfl fun v6 _ hs _=>?_)))))
  obtain ⟨_,hG93,hl93,hs⟩:=hs.fixRow noM
  replace hA:=hA.mono hG93
  replace hPg0:=hPg0.mono hG93
  replace hIv:=hIv.mono hG93
  refine O_s (Bf hs.f1 underlying39 TI76 rfl dC rfl rfl (hl93) ((Jv rfl)) oM oM fun v7 _ hs =>Wp 1 [1] hs rfl<|O_n (Sd hs.f2 rfl (hs.f2.rowOne 1 rfl) fun _ hs=>Wp 3 [5,1,2,3,5,6] hs rfl<|Zy hs (Ya (s:=((i+1:Nat):Int)) rfl<|Wp 1 [] hs rfl ?_)))
  have hs:=hs.f4.f4.f2.f3
  refine Zx [1,2,3,5,6] rfl ⟨i+1,_,css++[[.slice Av (Jm q.toNat) cv,Vi ((q.toNat / 2 % Jm q.toNat):Int),Vi ((q.toNat / 2 % Jm q.toNat):Int),.bool (decide (0<q.toNat % 8))]],_,by omega,(by rw [Po hNi];exact hA.snoc ⟨_,rfl,hIv⟩ rfl),hPg0,rfl,rfl,yV (hs.weak hs.le (Cj _) (Ea [_,_,_,_] _)) sM⟩
 refine Wp 3 [0] hs rfl ?_
 have hin:i=(Eh sz.toNat):=by omega
 rw [hin] at hA hs
 rw [List.take_of_length_le (by rw [hfn];exact Nat.le_refl _)] at hA
 obtain ⟨_,hG_hfv,hfv,hs⟩:=hs.fixRow noM
 replace hA:=hA.mono hG_hfv
 replace hPg0:=hPg0.mono hG_hfv
 have hNd0:yF _ _ f.nodes:=hA.fin hfv hfn.symm
 obtain ⟨An,cn,hne⟩:=Be.slice hNd0
 subst hne
 refine Wu 5 [0] hs rfl ?_
 have hs:=hs.nilRow 70 2
 have hs:=hs.f3.f3.f3.f3
 refine Zl [1,2,3,5,10] (fun m E w=>∃ (i:Nat) (ve:Value) (G2:Ghost),i≤(Eh sz.toNat)∧sT G2 (.slice Ap f.progs.length cp) f.progs∧yF G2 (.slice An f.nodes.length cn) f.nodes∧m=(Eh sz.toNat)-i∧E=⟨[],[(1,Vp b1),(2,Vp b2),(3,Vp b3),(5,Vi (((Eh sz.toNat:Nat):Int))),(10,Vi (i:Int))]⟩∧St ⟨w0,G,Bl []⟩ G2 [.row 70 2 ve (kX ed (Eh sz.toNat) i).length (kV (kX ed (Eh sz.toNat) i)),.blk b3 43 [.slice Ap f.progs.length cp,.slice An f.nodes.length cn,ve,Vn],.blk b1 28 [.int .u8 (sz.toNat:Int),.int .u8 (p0.toNat:Int),.int .u8 (p1.toNat:Int),.int .u8 (p2.toNat:Int),.int .u8 (p3.toNat:Int),.int .u8 (n0.toNat:Int),.int .u8 (n1.toNat:Int),.int .u8 (n2.toNat:Int),.int .u8 (n3.toNat:Int),.int .u8 (n4.toNat:Int),.int .u32 (ed:Int),.int .u16 (r0:Int),.int .u16 (r1:Int),.int .u16 (r2:Int)],.blk b2 43 [Vn,Vn,Vn,Vn]] w) rfl (⟨0,_,_,by omega,hPg0,hNd0,rfl,rfl,hs⟩) fun m E w hI=>?_
 obtain ⟨i,ve,G2,hi,hPg0,hNd0,rfl,rfl,hs⟩:=hI
 refine Wt 5 [] hs rfl<|Zy hs (Yc rfl (fun h98=>?_) fun h98=>?_)
 ·
  refine Wp 9 [0,0] hs rfl ?_
  have hs:=hs.f3.f3.f3.f3
  refine Zl [1,2,3,5,10,11] (fun m E w=>∃ (k:Nat) (ve:Value) (G2:Ghost),k≤(Eh sz.toNat)∧sT G2 (.slice Ap f.progs.length cp) f.progs∧yF G2 (.slice An f.nodes.length cn) f.nodes∧m=(Eh sz.toNat)-k∧E=⟨[],[(1,Vp b1),(2,Vp b2),(3,Vp b3),(5,Vi (((Eh sz.toNat:Nat):Int))),(10,Vi (i:Int)),(11,Vi (k:Int))]⟩∧St ⟨w0,G,Bl []⟩ G2 [.row 70 2 ve (kX ed (Eh sz.toNat) i++kA ed i k).length (kV (kX ed (Eh sz.toNat) i++kA ed i k)),.blk b3 43 [.slice Ap f.progs.length cp,.slice An f.nodes.length cn,ve,Vn],.blk b1 28 [.int .u8 (sz.toNat:Int),.int .u8 (p0.toNat:Int),.int .u8 (p1.toNat:Int),.int .u8 (p2.toNat:Int),.int .u8 (p3.toNat:Int),.int .u8 (n0.toNat:Int),.int .u8 (n1.toNat:Int),.int .u8 (n2.toNat:Int),.int .u8 (n3.toNat:Int),.int .u8 (n4.toNat:Int),.int .u32 (ed:Int),.int .u16 (r0:Int),.int .u16 (r1:Int),.int .u16 (r2:Int)],.blk b2 43 [Vn,Vn,Vn,Vn]] w) rfl (⟨0,ve,_,by omega,hPg0,hNd0,rfl,rfl,Bz hs (by simp [kA])⟩) fun m E w hI=>?_
  obtain ⟨k,ve,G2,hk,hPg0,hNd0,rfl,rfl,hs⟩:=hI
  refine Wt 5 [] hs rfl<|Zy hs (Yc rfl (fun h103=>?_) fun h103=>?_)
  ·
   refine Wp 9 [0] hs rfl<|Zy hs (Ya (s:=((i+1:Nat):Int)) rfl<|Zy hs (Yc rfl (fun h109=>?_) fun h109=>?_))
   ·
    refine Wp 6 [0] hs rfl<|Zy hs (Yc rfl (fun h112=>?_) fun h112=>?_)
    ·
     refine Wp 15 [7,1,2,3,5,10,11,126] hs rfl ?_
     have hel:(kX ed (Eh sz.toNat) i).length≤25:=Nat.le_trans (aZ _ _ _) (Nat.mul_le_mul (show i≤5 by omega) hnc.2)
     have hql:=mZ ed i k
     have hqa:(kX ed (Eh sz.toNat) i++kA ed i k).length=(kX ed (Eh sz.toNat) i).length+(kA ed i k).length:=List.length_append
     refine Wu 6 [2,1] hs rfl<|Zy hs (Ct underlying70 sizeOf3 zeroValue70 rfl rfl (cs:=[_,_]) rfl<|O_s (Bw hs underlying40 sizeOf70 zeroValue70 rfl rfl dC dC rfl (cs:=[_,_]) rfl rfl fun v8 _ hs _=>?_))
     obtain ⟨_,hG132,hl132,hs⟩:=hs.fixRow noM
     replace hPg0:=hPg0.mono hG132
     replace hNd0:=hNd0.mono hG132
     refine O_s (Bf hs underlying40 TI70 rfl dC rfl rfl (hl132) ((Jv rfl)) oM (by rw [List.length_append];omega) fun v9 _ hs =>Wp 1 [2] hs rfl<|O_n (Sd hs.f1 rfl (hs.f1.rowOne 1 rfl) fun _ hs=>Wp 3 [0] hs rfl<|Zy hs (Ya (s:=((k+1:Nat):Int)) rfl<|Wp 1 [] hs rfl ?_)))
     have hs:=hs.f3.f3.f2.f3
     refine Zx [1,2,3,5,10,11] rfl ⟨k+1,v9,_,by omega,hPg0,hNd0,rfl,rfl,Bz (hs.weak hs.le (Cj _) (Ea [_,_,_,_] _)) (by rw [edQ_T (on_next oM)];simp [fE,kV,prC,Nat.add_assoc])⟩
    refine Wp 3 [] hs rfl<|Eg 115 rfl rfl<|Eg 115 rfl rfl<|Eg 115 rfl rfl<|Eg 115 rfl rfl<|Eg 115 rfl rfl<|Eg 115 rfl rfl<|Eg 115 rfl rfl<|Eg 115 rfl rfl<|Eg 115 rfl rfl<|Wp 7 [0] hs rfl<|Zy hs (Ya (s:=((k+1:Nat):Int)) rfl<|Wp 1 [] hs rfl ?_)
    have hs:=hs.f3.f3.f3.f3
    refine Zx [1,2,3,5,10,11] rfl ⟨k+1,ve,_,by omega,hPg0,hNd0,rfl,rfl,Bz (hs.weak hs.le (Cj _) (Ea [_,_,_,_] _)) (by rw [yY (on_no oM)])⟩
   refine Wp 6 [0] hs rfl<|Zy hs (Yc rfl (fun h112=>?_) fun h112=>?_)
   ·
    refine Wp 6 [10,2] hs rfl<|Zg hs rfl (Xf (c:=((5*i:Nat):Int)) rfl rfl oM oM<|Wp 1 [] hs rfl<|Zg hs rfl (Ya (s:=((5*i+k:Nat):Int)) rfl<|Zg hs rfl (Xg (c:=((ed / 2 ^ (5*i+k):Nat):Int)) rfl rfl oM (shr32 _ _ oM)<|Zg hs rfl (Es (c:=((ed / 2 ^ (5*i+k) % 2:Nat):Int)) rfl rfl (Int.natCast_nonneg _) oM oM<|Zg hs rfl (Yc rfl (fun h124=>?_) fun h124=>?_)))))
    ·
     refine Wp 3 [7,1,2,3,5,10,11,126] hs rfl ?_
     have hel:(kX ed (Eh sz.toNat) i).length≤25:=Nat.le_trans (aZ _ _ _) (Nat.mul_le_mul (show i≤5 by omega) hnc.2)
     have hql:=mZ ed i k
     have hqa:(kX ed (Eh sz.toNat) i++kA ed i k).length=(kX ed (Eh sz.toNat) i).length+(kA ed i k).length:=List.length_append
     refine Wu 6 [2,1] hs rfl<|Zy hs (Ct underlying70 sizeOf3 zeroValue70 rfl rfl (cs:=[_,_]) rfl<|O_s (Bw hs underlying40 sizeOf70 zeroValue70 rfl rfl dC dC rfl (cs:=[_,_]) rfl rfl fun v10 _ hs _=>?_))
     obtain ⟨_,hG132,hl132,hs⟩:=hs.fixRow noM
     replace hPg0:=hPg0.mono hG132
     replace hNd0:=hNd0.mono hG132
     refine O_s (Bf hs underlying40 TI70 rfl dC rfl rfl (hl132) ((Jv rfl)) oM (by rw [List.length_append];omega) fun v11 _ hs =>Wp 1 [2] hs rfl<|O_n (Sd hs.f1 rfl (hs.f1.rowOne 1 rfl) fun _ hs=>Wp 3 [0] hs rfl<|Zy hs (Ya (s:=((k+1:Nat):Int)) rfl<|Wp 1 [] hs rfl ?_)))
     have hs:=hs.f3.f3.f2.f3
     refine Zx [1,2,3,5,10,11] rfl ⟨k+1,v11,_,by omega,hPg0,hNd0,rfl,rfl,Bz (hs.weak hs.le (Cj _) (Ea [_,_,_,_] _)) (by rw [edQ_T (((yZ oM oM).trans (decide_eq_true oM)))];simp [fE,kV,prC,Nat.add_assoc])⟩
    refine Wp 7 [7,1,2,3,5,10,11,126] hs rfl<|Zy hs (Ya (s:=((k+1:Nat):Int)) rfl<|Wp 1 [] hs rfl ?_)
    have hs:=hs.f3.f3.f3.f3
    refine Zx [1,2,3,5,10,11] rfl ⟨k+1,ve,_,by omega,hPg0,hNd0,rfl,rfl,Bz (hs.weak hs.le (Cj _) (Ea [_,_,_,_] _)) (by rw [yY (((yZ oM oM).trans (decide_eq_false oM)))])⟩
   refine Wp 3 [] hs rfl<|Eg 115 rfl rfl<|Eg 115 rfl rfl<|Eg 115 rfl rfl<|Eg 115 rfl rfl<|Eg 115 rfl rfl<|Eg 115 rfl rfl<|Eg 115 rfl rfl<|Eg 115 rfl rfl<|Eg 115 rfl rfl<|Wp 7 [0] hs rfl<|Zy hs (Ya (s:=((k+1:Nat):Int)) rfl<|Wp 1 [] hs rfl ?_)
   have hs:=hs.f3.f3.f3.f3
   refine Zx [1,2,3,5,10,11] rfl ⟨k+1,ve,_,by omega,hPg0,hNd0,rfl,rfl,Bz (hs.weak hs.le (Cj _) (Ea [_,_,_,_] _)) (by rw [yY (on_no oM)])⟩
  refine Wp 3 [0] hs rfl ?_
  have hkn:k=(Eh sz.toNat):=by omega
  rw [hkn,← kB] at hs
  refine Wu 2 [] hs rfl<|Zy hs (Ya (s:=((i+1:Nat):Int)) rfl<|Wp 1 [] hs rfl ?_)
  have hs:=hs.f3.f3.f3.f3
  refine Zx [1,2,3,5,10] rfl ⟨i+1,_,_,by omega,hPg0,hNd0,rfl,rfl,hs.weak hs.le (Cj _) (Ea [_,_,_,_] _)⟩
 refine Wp 3 [0] hs rfl ?_
 have hin:i=(Eh sz.toNat):=by omega
 rw [hin] at hs
 obtain ⟨_,hG_hfv,hfv,hs⟩:=hs.fixRow noM
 replace hPg0:=hPg0.mono hG_hfv
 replace hNd0:=hNd0.mono hG_hfv
 have hEd0:=fI (q:=Ee ed (Eh sz.toNat)) hfv
 rw [← hfed] at hEd0
 obtain ⟨Ae,ce,hee⟩:=Be.slice hEd0
 subst hee
 refine Wu 5 [0] hs rfl ?_
 have hs:=hs.nilRow 33 1
 have hs:=hs.f3.f3.f3.f3
 refine Zl [1,2,3,13] (fun m E w=>∃ (r:Nat) (vr:Value) (rs:List Value) (G2:Ghost),r≤(Pw sz.toNat)∧Ou G2 rs (f.routes.take r)∧sT G2 (.slice Ap f.progs.length cp) f.progs∧yF G2 (.slice An f.nodes.length cn) f.nodes∧kT G2 (.slice Ae f.edges.length ce) f.edges∧m=(Pw sz.toNat)-r∧E=⟨[],[(1,Vp b1),(2,Vp b2),(3,Vp b3),(13,Vi (r:Int))]⟩∧St ⟨w0,G,Bl []⟩ G2 [.row 33 1 vr r rs,.blk b3 43 [.slice Ap f.progs.length cp,.slice An f.nodes.length cn,.slice Ae f.edges.length ce,vr],.blk b1 28 [.int .u8 (sz.toNat:Int),.int .u8 (p0.toNat:Int),.int .u8 (p1.toNat:Int),.int .u8 (p2.toNat:Int),.int .u8 (p3.toNat:Int),.int .u8 (n0.toNat:Int),.int .u8 (n1.toNat:Int),.int .u8 (n2.toNat:Int),.int .u8 (n3.toNat:Int),.int .u8 (n4.toNat:Int),.int .u32 (ed:Int),.int .u16 (r0:Int),.int .u16 (r1:Int),.int .u16 (r2:Int)],.blk b2 43 [Vn,Vn,Vn,Vn]] w) rfl (⟨0,_,[],_,by omega,trivial,hPg0,hNd0,hEd0,rfl,rfl,hs⟩) fun m E w hI=>?_
 obtain ⟨r,vr,rs,G2,hr,hLr,hPg0,hNd0,hEd0,rfl,rfl,hs⟩:=hI
 refine Wt 6 [0,2] hs rfl<|Zy hs (Dl underlying5 underlying3 (c:=(sz.toNat:Int)) rfl Z42<|Zy hs (Ns (c:=((sz.toNat / 12:Nat):Int)) rfl rfl oM oM oM<|Zy hs (Es (c:=((sz.toNat / 12 % 3:Nat):Int)) rfl rfl oM oM oM<|Zy hs (Ef (c:=((Pw sz.toNat:Nat):Int)) rfl rfl (by unfold Pw;omega) oM<|Zy hs (Yc rfl (fun h142=>?_) fun h142=>?_)))))
 ·
  refine Wp 3 [0] hs rfl ?_
  obtain ⟨q,hq6,hq,hRi⟩:=hrr r oM
  refine Wu 2 [] hs rfl<|Bb [0,1,2,3,4,5,6,7,8] hs kR ?_
  replace hs:=hs.drew
  refine Xr [0,1,2,3,4] [3,1,1,11] hs rfl<|Xt 5 hs rfl (Dq r underlying26 sizeOf25 rfl rfl rfl oM (m:=11+r*1) rfl<|Xt 6 hs rfl (Dc 2 isAgg25 rfl rfl hq ?_))
  have hle:=hs.le
  refine Xo 7 rfl (Sc (rrou_ok (wp:=.slice Ap f.progs.length cp) (wr:=vr) (nn:=f.nodes.length) (es:=f.edges) hEd0 oM hq6 oM oM) hs rfl fun v12 G' H' _ hR hG152 hs=>?_)
  obtain ⟨rfl,hRt⟩:=hR
  replace hs:=hs.n rfl
  replace hLr:=hLr.mono hG152
  replace hPg0:=hPg0.mono hG152
  replace hNd0:=hNd0.mono hG152
  replace hEd0:=hEd0.mono hG152
  obtain ⟨A152,c152,rfl,_⟩:=id hRt
  refine Am hs hle hG152 (Df _) ?_
  have hle:=hs.le
  refine Xo 8 rfl (Bw hs underlying41 sizeOf33 zeroValue33 rfl rfl dC dC rfl (cs:=[_]) rfl rfl fun v13 _ hs _=>?_)
  obtain ⟨_,hG153,hl153,hs⟩:=hs.fixRow noM
  replace hLr:=hLr.mono hG153
  replace hPg0:=hPg0.mono hG153
  replace hNd0:=hNd0.mono hG153
  replace hEd0:=hEd0.mono hG153
  replace hRt:=hRt.mono hG153
  refine Am hs hle hG153 (Df _)<|Xa 9 rfl (Bf hs underlying41 bY rfl dC rfl rfl (hl153) (Fh rfl) oM oM fun v14 _ hs =>Xa 10 rfl (S_y hs rfl (Yf 3 rfl<|Xn 11 rfl (Sd hs.f1 rfl (hs.f1.rowOne 1 rfl) fun _ hs=>Xe (Zk [1,2,3,13] rfl<|Wu 2 [] hs rfl<|Zy hs (Ya (s:=((r+1:Nat):Int)) rfl<|Wp 1 [] hs rfl ?_))))))
  have hs:=hs.f3.f3.f2.f3
  refine Zx [1,2,3,13] rfl ⟨r+1,_,rs++[.slice A152 (Fg f.edges f.nodes.length q).length c152],_,by omega,(by rw [Po hRi];exact hLr.snoc (by rw [← hfed,← hfn];exact Qf hRt)),hPg0,hNd0,hEd0,rfl,rfl,hs.weak hs.le (Cj _) (Ea [_,_,_,_] _)⟩
 refine Wp 3 [0] hs rfl ?_
 have hrn2:r=(Pw sz.toNat):=by omega
 rw [hrn2,List.take_of_length_le (by rw [hfrl];exact Nat.le_refl _)] at hLr
 rw [hrn2] at hs
 refine Wu 3 [1] hs rfl<|O_n (Em hs.f3 sizeOf43 rfl rfl (vs:=[_,_,_,_]) rfl (by simp only [List.all_cons,List.all_nil,hs.f3.rowOne 1 rfl];rfl) sM (cs':=[_,_,_,_]) rfl fun _ hs =>Wp 1 [0] hs rfl<|Ah ?_)
 have hs:=hs.f1
 obtain ⟨_,hG_hfr,hfr,hs⟩:=hs.fixRow noM
 replace hLr:=hLr.mono hG_hfr
 replace hPg0:=hPg0.mono hG_hfr
 replace hNd0:=hNd0.mono hG_hfr
 replace hEd0:=hEd0.mono hG_hfr
 refine Zz results28 (Rb 0 hs rfl rF) ?_
 exact ⟨_,[],hs.done,rfl,by rw [← hfe];exact mR.of hPg0 hNd0 hEd0 (Ou.fin hfr hfrl.symm hLr)⟩
theorem nA:(List.range 14).all (fun k=>okP (Di k))=true:=by kernel_rfl
theorem bC {k:Nat} (h:k<14):okP (Di k)=true:=List.all_eq_true.1 nA k (List.mem_range.2 h)
structure FOk (f:Cg):Prop where
  z:sU f
  o:∀ p∈f.progs,OkP p
  pl:f.progs.length≤1000
  rl:f.routes.length≤1000
def noF:Cg:=⟨[],[],[],[]⟩
theorem noF_ok:FOk noF:=⟨⟨by decide,by decide,by decide,by decide⟩,fun p h=>eB,by decide,by decide⟩
theorem noF_c:Dm noF=1:=by kernel_rfl
theorem kC {x:Ut} (hx:x.ok):FOk (Gc x):=by
  have hn:=fP hx;have hp:=fQ hx;have hr:=fR hx
  have hn2:=Kz x.size;have hp2:=Ti x.size;have hr2:=Tj x.size
  have hpr:∀ p∈(Gc x).progs,okP p=true:=by
    intro p h
    have h':p∈(x.progs.take (Jx x.size)).map fun k=>Di (k % 14):=h
    obtain ⟨k,_,rfl⟩:=List.mem_map.1 h'
    exact bC (Nat.mod_lt _ dC)
  refine ⟨⟨by omega,?_,?_,?_⟩,fun p h=>.inl (hpr p h),by omega,by omega⟩
  · show (kX x.edges (Eh x.size) (Eh x.size)).length≤1000
    have:=aZ x.edges (Eh x.size) (Eh x.size)
    have h25:Eh x.size*Eh x.size≤5*5:=Nat.mul_le_mul hn2.2 hn2.2
    omega
  · intro y hy
    have hy':y∈(x.nodes.take (Eh x.size)).map (Qx (Jx x.size)):=hy
    obtain ⟨k,_,rfl⟩:=List.mem_map.1 hy'
    show (Li _ _).length≤1000
    rw [bA];have:=Tk k;omega
  · intro r h
    obtain ⟨l,rfl,_,_,_,h5⟩:=Qy h
    unfold Nr;rw [List.length_map];omega
end Go.Proofs.YtngdgnolkilheaaGreatDoor
namespace Go.Ex
open Go.Proofs Go.Shelf Go.RowKit Go.Sort
variable {P:Program} {ρ:Ren} {α:Type} [Inhabited α] {enc:α→List Value} {k:Nat}
theorem nB {W w':World} {G':Ghost} (h:St ⟨W,whole W,Bl []⟩ G' [] w'):∃ q os',w'=grow (W.drewN q) os':=by
 refine ⟨w'.drawn-W.drawn,w'.heap.extract W.heap.size w'.heap.size,?_⟩
 have h1:=h.os;have h2:=h.tape;have h3:=h.output;have h4:=h.drn
 have hh:W.heap++w'.heap.extract W.heap.size w'.heap.size=w'.heap:=by
  apply Array.ext_getElem?
  intro j
  rw [Array.getElem?_append]
  split
  ·exact (h.old j ‹_› (by rintro ⟨r,hr,_⟩;cases hr)).symm
  ·rw [Array.getElem?_extract]
   split
   ·rw [show W.heap.size+(j-W.heap.size)=j from by omega]
   ·rw [Array.getElem?_eq_none Dy]
 cases w';cases W
 dsimp only at h1 h2 h3 h4 hh
 unfold grow World.drewN
 dsimp only
 rw [hh,h1,h2,h3,show ∀ a b:Nat,a≤b→a+(b-a)=b from fun a b h=>by omega]
 exact h4
theorem Wr (hk:∀ x,(enc x).length=k):∀ (l:List α) (t:Nat),t<l.length*k→(l.flatMap enc)[t]?=some ((enc l[t / k]!)[t % k]!)
 | [],t,h=>by simp at h
 | a::l,t,h=>by
  have hk0:0<k:=Nat.pos_of_ne_zero (by rintro rfl;simp at h)
  rw [List.flatMap_cons,List.getElem?_append,hk a]
  split
  ·rw [Nat.div_eq_of_lt ‹_›,Nat.mod_eq_of_lt ‹_›,List.getElem?_eq_getElem (by rw [hk];assumption)]
   simp [*]
  ·have h1:k≤t:=by omega
   rw [Wr hk l (t-k) (by rw [List.length_cons,Nat.succ_mul] at h;omega),Nat.div_eq_sub_div hk0 h1,Nat.mod_eq_sub_mod h1]
   simp
theorem Qz (hk:∀ x,(enc x).length=k) (l:List α):(flatK enc k l.toArray).toList=l.flatMap enc:=by
 have hlen:(l.flatMap enc).length=l.length*k:=by
  induction l with
  | nil=>simp
  | cons a l ih=>rw [List.flatMap_cons,List.length_append,ih,hk,List.length_cons,Nat.succ_mul,Nat.add_comm]
 apply List.ext_getElem?
 intro t
 by_cases ht:t<l.length*k
 ·rw [Wr hk l t ht,Array.getElem?_toList,Array.getElem?_eq_getElem (by simpa using ht),← getElem!_pos (flatK enc k l.toArray) t (by simpa using ht),get_flatK _ _ _ _ (by simpa using ht)]
  simp
 ·rw [List.getElem?_eq_none Lk,List.getElem?_eq_none Dy]
theorem cJ (cur F:Array Value) (h:F.size≤cur.size):(putCells id 0 F cur).toList.take F.size=F.toList:=by
 apply List.ext_getElem?
 intro j
 by_cases hj:j<F.size
 ·rw [List.getElem?_take_of_lt hj,Array.getElem?_toList]
  simp [putCells,hj,show j<cur.size by omega]
 ·rw [List.getElem?_take_eq_none Dy,List.getElem?_eq_none Lk]
theorem zA (L:SlLaysF0.n6 P ρ) {g:Nat} {e:TypeId} (aE:∀ w,(isAgg (ρ.t 24)).run P w=.ok true w) (zE:∀ w,(Go.sizeOf (ρ.t 24)).run P w=.ok k w) (hk:∀ x,(enc x).length=k) (h1:∀ x,∀ v∈enc x,v.oneCell'=true) {cf:α→α→Int} (hO:SWO (ltOf cf))
  (eg:∀ args w,(callFunc g args).run P w=.ok (.enter g args) w) (hc:∀ (G:Ghost) x y,Ai P g [.agg (enc x).toArray,.agg (enc y).toArray] G [] fun r _ H'=>r=.int .i64 (cf x y)∧H'=[])
  {b cap n:Nat} {l:List α} {G:Ghost} (hn:n=l.length) (hl:l.length<4611686018427387904) :
  Ai P (ρ.f 6) [.slice (some ⟨b,0,none⟩) n cap,.func (.func g) #[] #[]] G [.row e k (.slice (some ⟨b,0,none⟩) n cap) n (l.flatMap enc)]
   fun _ _ H'=>∃ l':List α,l'.Perm l∧l'.Pairwise (fun a b=>ltOf cf b a=false)∧H'=[.row e k (.slice (some ⟨b,0,none⟩) n cap) n (l'.flatMap enc)]:=by
 subst hn
 intro w hw
 have hrow:w.ownsRow 0 e k (.slice (some ⟨b,0,none⟩) l.length cap) l.length (l.flatMap enc):=hw.hold (.row e k _ l.length (l.flatMap enc)) Dv
 rcases hrow.2 with ⟨h0,_⟩ | ⟨b',cap',cur,hv,h0,hh,hnc,hcm,hsz,htk⟩
 ·cases h0
 cases hv
 have hb:b<w.heap.size:=Dn hh
 have hH:HoldsK enc k w b 0 l.toArray:=by
  intro j hj
  have hj':j<l.length*k:=by simpa using hj
  refine ⟨?_,by simp [World.frozen?,hh]⟩
  have h2:(cur.toList.take (l.length*k))[j]?=(l.flatMap enc)[j]?:=by rw [htk]
  rw [List.getElem?_take_of_lt hj',Array.getElem?_toList] at h2
  simp only [World.cell?,hh,Nat.zero_add,Option.isSome_none,Bool.false_eq_true,if_false]
  rw [h2,← Qz hk,Array.getElem?_toList,Array.getElem?_eq_getElem hj,getElem!_pos _ j hj]
  rfl
 have hcmp:CmpLays P g #[] enc k cf b 0 l.toArray.size w:=fun m os dk _ x y =>
  (hc _ x y _ (St.whole _)).mono fun e' w' ⟨v,G',H',he,hs,hr,hH'⟩=>by
   subst hr hH'
   exact ⟨he,nB hs⟩
 refine (AnyQ.slices_SortFunc L k aE zE enc hk h1 cf hO g #[] b 0 cap l.toArray w eg hcmp hH hb (by simpa using hl)).mono fun e' w' ⟨he,d',m,os,hp,hso,hw'⟩=>?_
 obtain ⟨l',rfl⟩:∃ l':List α,d'=l'.toArray:=⟨d'.toList,rfl⟩
 have hlen:l'.length=l.length:=by simpa using hp.1
 have hperm:l'.Perm l:=by
  have:=hp.2.2
  simpa [hlen,List.take_of_length_le] using this
 refine ⟨_,G,[.row e k (.slice (some ⟨b,0,none⟩) l.length cap) l.length (l'.flatMap enc)],he,?_,l',hperm,?_,rfl⟩
 ·subst hw'
  refine St.write hw rfl rfl rfl (by simp [sortWorldK,putRowK,putRow,mapBlock,Sort.ahead,grow]) (fun j hj hf=>?_) ?_ (fun j hj=>.inl hj) (by simp [sortWorldK,putRowK,putRow,mapBlock,Sort.ahead,grow])
  ·unfold sortWorldK
   rw [heap_grow_old _ _ (by simpa [putRowK,putRow,mapBlock,Sort.ahead] using hj)]
   have:b≠j:=fun e2=>hf (by subst e2;rfl)
   simp [putRowK,putRow,mapBlock,Sort.ahead,Array.getElem?_modify,this]
  ·have hF:(flatK enc k l'.toArray).size=l.length*k:=by simp [hlen]
   have hcs:l.length*k≤cur.size:=by rw [hsz];exact Nat.mul_le_mul_right _ hnc
   refine ⟨?_,.inr ⟨b,cap,putCells id 0 (flatK enc k l'.toArray) cur,rfl,h0,?_,hnc,hcm,by simp [putCells,hsz],?_⟩⟩
   ·rw [← Qz hk,Array.length_toList,hF]
   ·unfold sortWorldK
    rw [heap_grow_old _ _ (by simpa [putRowK,putRow,mapBlock,Sort.ahead] using hb)]
    simp [putRowK,putRow,mapBlock,Sort.ahead,Array.getElem?_modify,hh,onCells]
   ·have:=cJ cur (flatK enc k l'.toArray) (by rw [hF];exact hcs)
    rw [hF] at this
    rw [this,Qz hk]
 ·rw [List.pairwise_iff_getElem]
  intro i j hi hj hij
  have:=hso i j (Nat.zero_le _) hij (by simpa [← hlen] using hj)
  simpa [hi,hj] using this
end Go.Ex
namespace Pl
open Go.Ex
def Mx (nv:List Int):List Int→List Nat→List (List Int)
 | r,[]=>[r]
 | r,i::o=>r::Mx nv (r.set i (nv.getD i 0)) o
section
variable (nv:List Int) (ed:Int→Nat×Nat) (S:Int→Int→Bool) (U:List Int) (r0:List Int)
def okE (r:List Int) (e:Int):Bool:=S (r.getD (ed e).1 0) (r.getD (ed e).2 0)
def Vq (o:List Nat) (e:Int):Bool:=(Mx nv r0 o).all fun r=>okE ed S r e
def clF (o:List Nat):List Int:=U.filter fun e=>!(Vq nv ed S r0 o e)
end
theorem nC (nv:List Int):∀ (o:List Nat) (r:List Int),(Mx nv r o).length=o.length+1
 | [],_=>rfl
 | i::o,r=>by rw [Mx,List.length_cons,nC nv o,List.length_cons]
theorem fU (nv r:List Int) (o:List Nat):(Mx nv r o)[0]?=some r:=by cases o<;>rfl
theorem qA (nv:List Int):∀ (o:List Nat) (r:List Int) (k:Nat) (h:k<o.length) (x:List Int),(Mx nv r o)[k]?=some x→(Mx nv r o)[k+1]?=some (x.set o[k] (nv.getD o[k] 0))
 | i::o,r,0,_,x,hx=>by
  rw [Mx,List.getElem?_cons_zero] at hx;injection hx with hx;subst hx
  rw [Mx,List.getElem?_cons_succ];exact fU _ _ _
 | i::o,r,k+1,h,x,hx=>by
  rw [Mx,List.getElem?_cons_succ] at hx
  rw [Mx,List.getElem?_cons_succ]
  exact qA nv o _ k bP x hx
theorem fV (nv:List Int):∀ (o:List Nat) (r x:List Int),x∈Mx nv r o→x.length=r.length
 | [],r,x,h=>by rw [Mx,List.mem_singleton] at h;rw [h]
 | i::o,r,x,h=>by
  rw [Mx] at h
  rcases List.mem_cons.1 h with rfl | h
  ·rfl
  ·rw [fV nv o _ x h,List.length_set]
theorem zB (nv:List Int) {p:Int→Prop} (h0:∀ i,p (nv.getD i 0)):∀ (o:List Nat) (r x:List Int),(∀ y∈r,p y)→x∈Mx nv r o→∀ y∈x,p y
 | [],r,x,hr,h=>by rw [Mx,List.mem_singleton] at h;rw [h];exact hr
 | i::o,r,x,hr,h=>by
  rw [Mx] at h
  rcases List.mem_cons.1 h with rfl | h
  ·exact hr
  ·refine zB nv h0 o _ x (fun y hy=>?_) h
   rcases List.mem_or_eq_of_mem_set hy with hy | rfl
   ·exact hr y hy
   ·exact h0 i
theorem Wr {α:Type} (g:Nat→List α):∀ {N i m:Nat} {x:α},i<N→(g i)[m]?=some x→((List.range N).flatMap g)[((List.range i).flatMap g).length+m]?=some x:=by
 intro N i m x hi hx
 have e:List.range N=List.range i++(List.range (N-i)).map (i+·):=by
  have:N=i+(N-i):=by omega
  conv=>lhs;rw [this,List.range_add]
 rw [e,List.flatMap_append,List.getElem?_append_right (Nat.le_add_right _ _),Nat.add_sub_cancel_left]
 obtain ⟨d,hd⟩:∃ d,N-i=d+1:=⟨N-i-1,by omega⟩
 rw [hd,List.range_succ_eq_map,List.map_cons,List.flatMap_cons,Nat.add_zero,List.getElem?_append_left (List.getElem?_eq_some_iff.1 hx).1]
 exact hx
theorem flat_len {α:Type} (g:Nat→List α) (i:Nat):((List.range (i+1)).flatMap g).length=((List.range i).flatMap g).length+(g i).length:=by
 rw [List.range_succ,List.flatMap_append];simp
def Gk:Nat→List Nat→List Nat→List (List Nat)
 | 0,p,_=>[p]
 | f+1,p,l=>if l=[] then [p] else (List.range l.length).flatMap fun i=>Gk f (p++[l.getD i 0]) (l.eraseIdx i)
theorem Ra {α:Type}:∀ {l:List α} (i:Nat) (h:i<l.length),(l[i]::l.eraseIdx i).Perm l
 | a::l,0,_=>.refl _
 | a::l,i+1,h=>(List.Perm.swap a _ _).trans ((Ra (l:=l) i bP).cons a)
theorem bD:∀ (f:Nat) (p l o:List Nat),l.length=f→o∈Gk f p l→∃ q,o=p++q∧q.Perm l
 | 0,p,l,o,hl,h=>by
  obtain rfl:l=[]:=List.length_eq_zero_iff.1 hl
  rw [Gk,List.mem_singleton] at h
  exact ⟨[],by simp [h],.refl _⟩
 | f+1,p,l,o,hl,h=>by
  have hne:¬ l=[]:=fun e=>by rw [e] at hl;cases hl
  rw [Gk,if_neg hne,List.mem_flatMap] at h
  obtain ⟨i,hi,h⟩:=h
  rw [List.mem_range] at hi
  obtain ⟨q,rfl,hq⟩:=bD f _ _ o Z29 h
  refine ⟨l.getD i 0::q,by simp,?_⟩
  rw [List.getD_eq_getElem?_getD,List.getElem?_eq_getElem hi]
  exact (List.Perm.cons _ hq).trans (Ra i hi)
theorem kD:∀ (f:Nat) (p l q:List Nat),l.length=f→q.Perm l→p++q∈Gk f p l
 | 0,p,l,q,hl,h=>by
  obtain rfl:l=[]:=List.length_eq_zero_iff.1 hl
  rw [h.eq_nil,Gk];simp
 | f+1,p,l,q,hl,h=>by
  have hne:¬ l=[]:=fun e=>by rw [e] at hl;cases hl
  rw [Gk,if_neg hne,List.mem_flatMap]
  cases q with
  | nil=>exact absurd h.symm.eq_nil hne
  | cons a q =>
   have ha:a∈l:=h.subset List.mem_cons_self
   obtain ⟨i,hi,e⟩:=List.getElem_of_mem ha
   refine ⟨i,List.mem_range.2 hi,?_⟩
   rw [List.getD_eq_getElem?_getD,List.getElem?_eq_getElem hi,e]
   have hq:q.Perm (l.eraseIdx i):=by
    have h2:=h.trans (Ra i hi).symm
    rw [e] at h2
    exact List.Perm.cons_inv h2
   have:=kD f (p++[a]) (l.eraseIdx i) q Z29 hq
   simpa using this
def bE (c:List Nat→List Int):Option (List Nat×List Int)→List (List Nat)→Option (List Nat×List Int)
 | b,[]=>b
 | b,o::l=>bE c (match b with
  | none=>some (o,c o)
  | some (p,q)=>if (c o).length<q.length then some (o,c o) else some (p,q)) l
theorem bF (c:List Nat→List Int):∀ (l:List (List Nat)) (p:List Nat),∃ o,bE c (some (p,c p)) l=some (o,c o)∧(o=p∨o∈l)∧(c o).length≤(c p).length∧(∀ x∈l,(c o).length≤(c x).length) ∧
  (o=p∨((c o).length<(c p).length∧∃ a b,l=a++o::b∧∀ x∈a,(c o).length<(c x).length))
 | [],p=>⟨p,rfl,.inl rfl,Nat.le_refl _,by simp,.inl rfl⟩
 | x::l,p=>by
  rw [bE]
  by_cases hlt:(c x).length<(c p).length
  ·simp only [if_pos hlt]
   obtain ⟨o,h1,h2,h3,h4,h5⟩:=bF c l x
   refine ⟨o,h1,.inr ?_,by omega,?_,.inr ⟨by omega,?_⟩⟩
   ·rcases h2 with rfl | h2
    ·exact List.mem_cons_self
    ·exact List.mem_cons_of_mem _ h2
   ·intro y hy
    rcases List.mem_cons.1 hy with rfl | hy
    ·exact h3
    ·exact h4 y hy
   ·rcases h5 with rfl | ⟨h5,a,b,rfl,h6⟩
    ·exact ⟨[],l,rfl,by simp⟩
    ·exact ⟨x::a,b,rfl,fun y hy=>(List.mem_cons.1 hy).elim (fun e=>e▸h5) (h6 y)⟩
  ·simp only [if_neg hlt]
   obtain ⟨o,h1,h2,h3,h4,h5⟩:=bF c l p
   refine ⟨o,h1,h2.elim .inl fun h=>.inr (List.mem_cons_of_mem _ h),h3,?_,?_⟩
   ·intro y hy
    rcases List.mem_cons.1 hy with rfl | hy
    ·omega
    ·exact h4 y hy
   ·rcases h5 with rfl | ⟨h5,a,b,rfl,h6⟩
    ·exact .inl rfl
    ·exact .inr ⟨h5,x::a,b,rfl,fun y hy=>(List.mem_cons.1 hy).elim (fun e=>by rw [e];omega) (h6 y)⟩
theorem bst_ok (c:List Nat→List Int) {l:List (List Nat)} (h:l≠[]):∃ o a b,bE c none l=some (o,c o)∧l=a++o::b∧(∀ x∈l,(c o).length≤(c x).length)∧∀ x∈a,(c o).length<(c x).length:=by
 cases l with
 | nil=>exact absurd rfl h
 | cons p l =>
  obtain ⟨o,h1,h2,h3,h4,h5⟩:=bF c l p
  rcases h5 with rfl | ⟨h5,a,b,rfl,h6⟩
  ·exact ⟨o,[],l,h1,rfl,fun x hx=>(List.mem_cons.1 hx).elim (fun e=>e▸Nat.le_refl _) (h4 x),by simp⟩
  ·exact ⟨o,p::a,b,h1,rfl,fun x hx=>(List.mem_cons.1 hx).elim (fun e=>e▸h3) (h4 x),fun x hx=>(List.mem_cons.1 hx).elim (fun e=>e▸h5) (h6 x)⟩
section
variable {nv:List Int} {ed:Int→Nat×Nat} {S T:Int→Int→Bool} {U:List Int} {r0:List Int}
theorem zC (o:List Nat):(clF nv ed S U r0 o).Sublist U:=List.filter_sublist
theorem cl_iff {o:List Nat} {C:List Int}:(∀ e∈clF nv ed S U r0 o,e∈C)↔∀ r∈Mx nv r0 o,∀ e∈U,e∉C→okE ed S r e=true:=by
 unfold clF
 constructor
 ·intro h r hr e he hC
  cases hs:Vq nv ed S r0 o e with
  | true=>exact List.all_eq_true.1 hs r hr
  | false=>exact absurd (h e (List.mem_filter.2 ⟨he,by rw [hs];rfl⟩)) hC
 ·intro h e he
  obtain ⟨h1,h2⟩:=List.mem_filter.1 he
  rw [Bool.not_eq_true'] at h2
  by_cases hC:e∈C
  ·exact hC
  ·have:Vq nv ed S r0 o e=true:=List.all_eq_true.2 fun r hr=>h r hr e h1 hC
   rw [this] at h2;cases h2
end
theorem sub_len {l m:List Int} (hn:l.Nodup) (h:∀ e∈l,e∈m):l.length≤m.length:=by
 induction l generalizing m with
 | nil=>exact Nat.zero_le _
 | cons a l ih =>
  rw [List.nodup_cons] at hn
  have ha:=h a List.mem_cons_self
  have:=ih (m:=m.erase a) hn.2 fun e he=>(List.mem_erase_of_ne (fun e2=>hn.1 (by rw [← e2];exact he))).2 (h e (List.mem_cons_of_mem _ he))
  rw [List.length_erase_of_mem ha] at this
  have hm:0<m.length:=List.length_pos_of_mem ha
  rw [List.length_cons];omega
theorem Ry {l:List Int} (h:l.Nodup) {i:Nat} (hi:i<l.length):l[i]∉l.take i++l.drop (i+1):=by
 intro hm
 rcases List.mem_append.1 hm with hm | hm
 ·obtain ⟨j,hj,e⟩:=List.getElem_of_mem hm
  rw [List.length_take] at hj
  rw [List.getElem_take] at e
  exact (List.pairwise_iff_getElem.1 h) j i Dy hi Dy e
 ·obtain ⟨j,hj,e⟩:=List.getElem_of_mem hm
  rw [List.length_drop] at hj
  rw [List.getElem_drop] at e
  exact (List.pairwise_iff_getElem.1 h) i (i+1+j) hi Dy Dy e.symm
end Pl
