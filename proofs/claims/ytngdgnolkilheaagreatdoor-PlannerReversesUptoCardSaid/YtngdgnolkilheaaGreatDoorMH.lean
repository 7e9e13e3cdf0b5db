/- Part 8 of the walk through the functions that the laws of package fleet call: each function's contract, without conditions but those that its statement names. -/
import Derived.Test.YtngdgnolkilheaaGreatDoorMG
import Derived.Shelf.SlSortCmp.WholeK
import Derived.Test.YtngdgnolkilheaaGreatDoorShelf
set_option maxHeartbeats 4000000
set_option maxRecDepth 10000
set_option linter.unusedVariables false
set_option linter.unusedSimpArgs false
set_option linter.unusedSectionVars false
namespace Go.Proofs.YtngdgnolkilheaaGreatDoor
open Go Go.Ex Go.RowKit Go.Proofs.Tryz
def srtB:List (List UInt8)→Bool
  | a::b::l=>!(Op.bytesLess b a) && (!(decide (b=a)) && srtB (b::l))
  | _=>true
theorem jL:∀ (l:List (List UInt8)),srtB l=true→tC l
  | [],_=>fun i h=>by simp at h
  | [_],_=>fun i h=>by simp at h
  | a::b::l,h=>fun i hi=>by
    rw [srtB] at h
    simp only [Bool.and_eq_true,Bool.not_eq_true',decide_eq_false_iff_not] at h
    cases i with
    | zero=>exact ⟨h.1,h.2.1⟩
    | succ i =>
      have:=jL (b::l) h.2.2 i (by simpa using hi)
      simpa using this
structure Lw where
  vers:List Int
  runs:Int
  claims:Int
  up:Bool
deriving DecidableEq
structure Bw where
  progs:List By
  nodes:List Lw
  edges:List (Int×Int)
  routes:List (List Int)
deriving DecidableEq
def tX:By:=⟨[],[]⟩
def eK (e:Int×Int):Value:=K2 e.1 e.2
theorem Ie.edge {P:Program} {t e:TypeId} (ht:P.underlying t=some (.array 2 e)) (hS:∀ w,(sizeOf e).run P w=.ok 1 w) (hA:∀ w,(isAgg e).run P w=.ok false w) (he:P.underlying e=some (.int .i64)):Ie P t eK:=by
  refine Ie.asked ht ?_ ?_ ?_ ?_
  · rintro ⟨a,b⟩ ⟨c,d⟩ h
    simp only [eK] at h
    obtain ⟨rfl,rfl⟩:=lG.1 h
    rfl
  · rintro em ⟨a,b⟩ w
    exact Qk em 9998 ht hS hA he _ _
  · rintro ⟨a,b⟩ ⟨c,d⟩;rfl
  · rintro ⟨a,b⟩ ⟨c,d⟩ w
    show (Op.equalIn (9998+2) t _ _).run P w=_
    simp only [eK,K2]
    rw [Tx 9998 ht hS hA he]
    congr 1
    rw [Bool.eq_iff_iff];simp only [Bool.and_eq_true,decide_eq_true_eq,Prod.mk.injEq]
def pM (G:Ghost) (cs:List Value) (p:By):Prop:=∃ vs vb,cs=[vs,vb]∧(fA G vs p.stmts∧cF vs p.stmts)∧(LN G vb p.blocks∧cF vb p.blocks)
def jM (G:Ghost) (cs:List Value) (x:Lw):Prop:=∃ v,cs=[v,Vi x.runs,Vi x.claims,.bool x.up]∧Bt G v x.vers
def EdR (_:Ghost) (cs:List Value) (e:Int×Int):Prop:=cs=[Vi e.1,Vi e.2]
def RtR (G:Ghost) (cs:List Value) (r:List Int):Prop:=∃ v,cs=[v]∧Bt G v r
def tE (G:Ghost) (v:Value) (l:List By):Prop:=Be 2 pM G v l
def yR (G:Ghost) (v:Value) (l:List Lw):Prop:=Be 4 jM G v l
def kU (G:Ghost) (v:Value) (l:List (Int×Int)):Prop:=Be 2 EdR G v l
def Rts (G:Ghost) (v:Value) (l:List (List Int)):Prop:=Be 1 RtR G v l
theorem pM.mono {G G':Ghost} (h:G.le G') {cs:List Value} {p:By} (hp:pM G cs p):pM G' cs p:=by
  obtain ⟨vs,vb,e,⟨h1,k1⟩,⟨h2,k2⟩⟩:=hp
  exact ⟨vs,vb,e,⟨h1.mono h,k1⟩,⟨h2.mono h,k2⟩⟩
theorem jM.mono {G G':Ghost} (h:G.le G') {cs:List Value} {x:Lw} (hp:jM G cs x):jM G' cs x:=by
  obtain ⟨v,e,h1⟩:=hp
  exact ⟨v,e,h1.mono h⟩
theorem RtR.mono {G G':Ghost} (h:G.le G') {cs:List Value} {r:List Int} (hp:RtR G cs r):RtR G' cs r:=by
  obtain ⟨v,e,h1⟩:=hp
  exact ⟨v,e,h1.mono h⟩
theorem EdR.mono {G G':Ghost} (_:G.le G') {cs:List Value} {e:Int×Int} (hp:EdR G cs e):EdR G' cs e:=hp
theorem tE.mono {G G':Ghost} (h:G.le G') {v:Value} {l:List By} (hl:tE G v l):tE G' v l:=Be.mono (fun _ _ hp=>hp.mono h) h hl
theorem yR.mono {G G':Ghost} (h:G.le G') {v:Value} {l:List Lw} (hl:yR G v l):yR G' v l:=Be.mono (fun _ _ hp=>hp.mono h) h hl
theorem kU.mono {G G':Ghost} (h:G.le G') {v:Value} {l:List (Int×Int)} (hl:kU G v l):kU G' v l:=Be.mono (R:=EdR) (G:=G) (G':=G') (fun _ _ hp=>hp) h hl
theorem Rts.mono {G G':Ghost} (h:G.le G') {v:Value} {l:List (List Int)} (hl:Rts G v l):Rts G' v l:=Be.mono (fun _ _ hp=>hp.mono h) h hl
structure Hb (G:Ghost) (Ap An Ae Ar:Option Addr) (cp cn ce cr:Nat) (f:Bw):Prop where
  p:tE G (.slice Ap f.progs.length cp) f.progs
  n:yR G (.slice An f.nodes.length cn) f.nodes
  e:kU G (.slice Ae f.edges.length ce) f.edges
  r:Rts G (.slice Ar f.routes.length cr) f.routes
theorem Hb.mono {G G':Ghost} (h:G.le G') {Ap An Ae Ar:Option Addr} {cp cn ce cr:Nat} {f:Bw} (hf:Hb G Ap An Ae Ar cp cn ce cr f):Hb G' Ap An Ae Ar cp cn ce cr f :=
  ⟨hf.p.mono h,hf.n.mono h,hf.e.mono h,hf.r.mono h⟩
def fF (Ap An Ae Ar:Option Addr) (cp cn ce cr:Nat) (f:Bw):List Value:=[.slice Ap f.progs.length cp,.slice An f.nodes.length cn,.slice Ae f.edges.length ce,.slice Ar f.routes.length cr]
def mQ (G:Ghost) (v:Value) (f:Bw):Prop:=∃ Ap An Ae Ar cp cn ce cr,v=.agg (fF Ap An Ae Ar cp cn ce cr f).toArray∧Hb G Ap An Ae Ar cp cn ce cr f
theorem mQ.mono {G G':Ghost} (h:G.le G') {v:Value} {f:Bw} (hf:mQ G v f):mQ G' v f:=by
  obtain ⟨Ap,An,Ae,Ar,cp,cn,ce,cr,e,hf⟩:=hf
  exact ⟨Ap,An,Ae,Ar,cp,cn,ce,cr,e,hf.mono h⟩
theorem mQ.of {G:Ghost} {vp vn ve vr:Value} {f:Bw} (h1:tE G vp f.progs) (h2:yR G vn f.nodes) (h3:kU G ve f.edges) (h4:Rts G vr f.routes):mQ G (.agg #[vp,vn,ve,vr]) f:=by
  obtain ⟨Ap,cp,rfl⟩:=Be.slice h1
  obtain ⟨An,cn,rfl⟩:=Be.slice h2
  obtain ⟨Ae,ce,rfl⟩:=Be.slice h3
  obtain ⟨Ar,cr,rfl⟩:=Be.slice h4
  exact ⟨Ap,An,Ae,Ar,cp,cn,ce,cr,rfl,h1,h2,h3,h4⟩
structure tY (f:Bw):Prop where
  n:f.nodes.length≤1000
  e:f.edges.length≤1000
  v:∀ x∈f.nodes,x.vers.length≤1000
  r:∀ x∈f.routes,x.length≤1000
def Rc (x n:Int):Bool:=decide (0≤x∧x<n)
def tF (x n:Int):Bool:=!(Rc x n)
theorem outB_T {x n:Int} (h:tF x n=true):Rc x n=false:=by simpa [tF] using h
theorem outB_F {x n:Int} (h:tF x n=false):Rc x n=true:=by simpa [tF] using h
def Vh (l:List Int) (n:Int):Bool:=!(l.all fun v=>Rc v n)
def okP (p:By):Bool:=dU p && ((match Le p 8 0 with | some z=>decide (z≤262144) | none=>false) && ((Mm p 8 0 (⟨true,Ih [0] []⟩,none)).isSome && (decide ((Om p.stmts).length≤12) && srtB (Om p.stmts))))
def OkP (p:By):Prop:=okP p=true∨p=tX
def pN (p:By):Int:=if p=tX then 1 else 0
def Ij (np:Int) (x:Lw):Bool:=decide (1≤x.vers.length∧x.vers.length≤8) && (x.vers.all (fun v=>Rc v np) && (Rc x.runs x.vers.length && Rc x.claims x.vers.length))
def Hn (n:Int):List (Int×Int)→List (Int×Int)→Bool
  | _,[]=>true
  | seen,e::l=>!(decide (e∈seen)) && (Rc e.1 n && (Rc e.2 n && (!(decide (e.1=e.2)) && Hn n (seen++[e]) l)))
def Gk (n:Int) (l:List (Int×Int)):Bool:=Hn n [] l
def Sx (edges:List (Int×Int)) (o:Option Int) (x:Int):Bool:=match o with | none=>true | some y=>decide ((y,x)∈edges)
def Ep (edges:List (Int×Int)):List Int→List Int→Bool
  | _,[]=>true
  | pre,x::l=>!(pre.contains x) && (Sx edges pre.getLast? x && Ep edges (pre++[x]) l)
def Gg (edges:List (Int×Int)) (r:List Int):Bool:=decide (2≤r.length∧r.length≤12) && Ep edges [] r
def Dh (f:Bw):Int :=
  if 16<f.progs.length∨24<f.nodes.length∨100<f.routes.length then 2
  else if f.progs.length=0∨f.nodes.length=0 then 1
  else if f.progs.all (fun p=>decide (¬ p=tX))=false then 1
  else if f.nodes.all (Ij f.progs.length)=false then 1
  else if Gk f.nodes.length f.edges=false then 1
  else if f.routes.all (Gg f.edges)=false then 300 else 0
theorem yS {G:Ghost} {cs:List Value} {p:By} (hp:pM G cs p) (hk:OkP p) (hT:Tab G):Ai prog 86 [.agg cs.toArray] G [] fun r _ H'=>H'=[]∧∃ a b c,r=.tuple #[.agg #[a,b,c],Vi (pN p)]∧([a,b,c].all fun x=>x.oneCell')=true:=by
  rcases hk with hk | rfl
  · obtain ⟨vs,vb,rfl,⟨h1,_⟩,⟨h2,_⟩⟩:=hp
    unfold okP at hk
    simp only [Bool.and_eq_true] at hk
    obtain ⟨hg,hz,hw,hn,hs⟩:=hk
    split at hz
    · rename_i z hb
      obtain ⟨R,hR⟩:=Option.isSome_iff_exists.1 hw
      have hne:pN p=0:=if_neg fun h=>by
        have:=(Pf hg).2.2.1
        rw [h] at this;simp [tX] at this
      rw [hne]
      exact rchk_ok ⟨vs,vb,rfl,h1,h2⟩ hg hb (of_decide_eq_true hz) hR (of_decide_eq_true hn) (jL _ hs) hT
    · cases hz
  · obtain ⟨vs,vb,rfl,⟨_,h1⟩,⟨_,h2⟩⟩:=hp
    obtain rfl:=h1 rfl
    obtain rfl:=h2 rfl
    exact yQ
theorem Hz {x n:Int}:Rc x n=true↔0≤x∧x<n:=decide_eq_true_iff
theorem keyE:Ie prog 70 eK:=Ie.edge underlying70 sizeOf3 isAgg3 underlying3
theorem edges_T {n:Int} {l:List (Int×Int)} {k:Nat} (h:k<l.length) (h1:¬ Da l[k] (l.take k)<(l.take k).length) (h2:Rc l[k].1 n=true) (h3:Rc l[k].2 n=true) (h4:¬ l[k].1=l[k].2) :
    Hn n (l.take k) (l.drop k)=Hn n (l.take (k+1)) (l.drop (k+1))∧(l.take (k+1)).Nodup=(l.take k++[l[k]]).Nodup:=by
  have hm:¬ l[k]∈l.take k:=fun h=>h1 (Fy.2 h)
  have he:l.take (k+1)=l.take k++[l[k]]:=by rw [List.take_add_one,List.getElem?_eq_getElem h];rfl
  constructor
  · rw [List.drop_eq_getElem_cons h,Hn,he];simp [hm,h2,h3,h4]
  · rw [he]
theorem Wq {n:Int} {l:List (Int×Int)} {k:Nat} (h:k<l.length) (h1:Da l[k] (l.take k)<(l.take k).length∨Rc l[k].1 n=false∨Rc l[k].2 n=false∨l[k].1=l[k].2):Hn n (l.take k) (l.drop k)=false:=by
  rw [List.drop_eq_getElem_cons h,Hn]
  rcases h1 with h1 | h1 | h1 | h1
  · have:=Fy.1 h1
    simp [this]
  · simp [h1]
  · simp [h1]
  · simp [h1]
theorem mR {α:Type} {l:List α} {k:Nat} (h:k<l.length) (hn:(l.take k).Nodup) (hm:¬ l[k]∈l.take k):(l.take (k+1)).Nodup:=by
  have he:l.take (k+1)=l.take k++[l[k]]:=by rw [List.take_add_one,List.getElem?_eq_getElem h];rfl
  rw [he,List.nodup_append]
  exact ⟨hn,by simp,fun a ha b hb e=>hm (by rw [List.mem_singleton.1 hb] at e;rw [← e];exact ha)⟩
theorem aU {G:Ghost} {x n:Int} :
  Ai prog 89 [Vi x,Vi n] G [] fun r _ H'=>H'=[]∧r=.bool (Rc x n):=by
 refine Ai.of_T [(0,_),(1,_)] func89 rfl ntmps89 sM rfl fun w0 hs =>Wt 7 [0] hs rfl<|Zy hs (Yc rfl (fun h6=>?_) fun h6=>?_)
 ·
  refine Wp 3 [] hs rfl<|Zg hs rfl (Yc rfl (fun h10=>?_) fun h10=>?_)
  ·
   refine Wp 3 [0] hs rfl<|Ah<|Zz results89 rfl ?_
   exact ⟨_,[],hs.done,rfl,congrArg Value.bool (by unfold Rc;rw [eq_comm];exact decide_eq_true oM)⟩
  refine Wp 3 [0] hs rfl<|Ah<|Zz results89 rfl ?_
  exact ⟨_,[],hs.done,rfl,congrArg Value.bool (by unfold Rc;rw [eq_comm];exact decide_eq_false oM)⟩
 refine Wp 7 [0] hs rfl<|Ah<|Zz results89 rfl ?_
 exact ⟨_,[],hs.done,rfl,congrArg Value.bool (by unfold Rc;rw [eq_comm];exact decide_eq_false oM)⟩
theorem yT {G:Ghost} {b1:Nat} {x:Int} {Ap An Ae Ar:Option Addr} {cp cn ce cr:Nat} {f:Bw} (hQ1:Br G b1 [.slice Ap f.progs.length cp,.slice An f.nodes.length cn,.slice Ae f.edges.length ce,.slice Ar f.routes.length cr]) :
  Ai prog 88 [Vi x,Vp b1] G [] fun r _ H'=>H'=[]∧r=.bool (tF x f.progs.length):=by
 refine Ai.of_T [(0,_),(1,_)] func88 rfl ntmps88 sM rfl fun w0 hs=>?_
 have hQ10:=hQ1
 refine Wt 8 [0,0] hs rfl<|Zy hs (Yg rfl (hQ1 0 _ rfl)<|Wp 1 [] hs rfl<|O_s (Sc (aU) hs rfl fun v1 G' H' _ hR hG8 hs=>?_))
 obtain ⟨rfl,rfl⟩:=hR
 replace hs:=hs.n rfl
 refine Wp 3 [0] hs rfl<|Ah<|Zz results88 rfl ?_
 exact ⟨_,[],hs.done,rfl,rfl⟩
theorem idxf_ok {G:Ghost} {b1:Nat} {v:Value} {l:List Int} {Ap An Ae Ar:Option Addr} {cp cn ce cr:Nat} {f:Bw} (hQ1:Br G b1 [.slice Ap f.progs.length cp,.slice An f.nodes.length cn,.slice Ae f.edges.length ce,.slice Ar f.routes.length cr]) (hl:Bt G v l) (hn:l.length≤1000) :
  Ai prog 115 [v,.func (.func 88) #[] #[Vp b1]] G [] fun r _ H'=>H'=[]∧∃ z,r=Vi z∧(0≤z↔l.all (fun v=>Rc v f.progs.length)=false):=by
 obtain ⟨Al,cl,rfl,_⟩:=id hl
 refine Ai.of_T [(0,_),(1,_)] func115 rfl ntmps115 sM rfl fun w0 hs=>?_
 have hQ10:=hQ1
 have hl0:=hl
 refine Wt 11 [0,0] hs rfl<|Zl [0,1,7,8] (fun m E w=>∃ (k:Nat) (G2:Ghost),k≤l.length∧(l.take k).all (fun v=>Rc v f.progs.length)=true∧m=l.length-k∧E=⟨[],[(0,(.slice Al l.length cl)),(1,.func (.func 88) #[] #[Vp b1]),(7,Vi ((l.length:Nat):Int)),(8,Vi (k:Int))]⟩∧St ⟨w0,G,Bl []⟩ G2 [] w) rfl (⟨0,_,by omega,by rw [List.take_zero];rfl,rfl,rfl,hs⟩) fun m E w hI=>?_
 obtain ⟨k,G2,hk,ha,rfl,rfl,hs⟩:=hI
 have hQ1:=hQ10.mono hs.le
 have hl:=hl0.mono hs.le
 refine Wt 2 [] hs rfl<|Zy hs (Yc rfl (fun h9=>?_) fun h9=>?_)
 ·
  refine Wp 16 [0,0] hs rfl<|Zy hs (Dl hl k underlying33 sizeOf3 rfl rfl rfl oM fun p14 hp14=>?_)
  obtain ⟨x,hxe⟩:∃ x,x=l[k]'oM:=⟨_,rfl⟩
  rw [← hxe] at hp14
  refine Zy hs (Yg rfl (hp14)<|O_s (Cb (args:=[_]) (lb:=[_]) (H1:=[]) hs rfl rfl func88 rfl kR (yT hQ1 (f:=f) (x:=x)) fun v1 G' H' _ hR hG16 hs=>?_))
  obtain ⟨rfl,rfl⟩:=hR
  replace hs:=hs.n rfl
  cases h16:tF x (f.progs.length:Int)
  ·
   refine Wp 4 [0] hs rfl<|Zy hs (Ya (s:=((k+1:Nat):Int)) rfl<|Wp 1 [] hs rfl<|Zx [0,1,7,8] rfl ⟨k+1,_,by omega,by rw [List.take_add_one,List.getElem?_eq_getElem oM,← hxe,List.all_append,ha];simp [outB_F h16],rfl,rfl,hs⟩)
  refine Wp 7 [0,0] hs rfl<|Ah<|Zz results115 rfl ?_
  exact ⟨_,[],hs.done,rfl,_,rfl,fun _=>by rw [List.all_eq_false];exact ⟨x,by rw [hxe];exact List.getElem_mem _,by simp [outB_T h16]⟩,fun _=>by omega⟩
 refine Wp 4 [0] hs rfl<|Wu 4 [0] hs rfl<|Ah<|Zz results115 rfl ?_
 obtain rfl:k=l.length:=by omega
 rw [List.take_length] at ha
 exact ⟨_,[],hs.done,rfl,_,rfl,fun h=>by omega,fun h=>by rw [ha] at h;cases h⟩
theorem conf_ok {G:Ghost} {b1:Nat} {v:Value} {l:List Int} {Ap An Ae Ar:Option Addr} {cp cn ce cr:Nat} {f:Bw} (hQ1:Br G b1 [.slice Ap f.progs.length cp,.slice An f.nodes.length cn,.slice Ae f.edges.length ce,.slice Ar f.routes.length cr]) (hl:Bt G v l) (hn:l.length≤1000) :
  Ai prog 87 [v,.func (.func 88) #[] #[Vp b1]] G [] fun r _ H'=>H'=[]∧r=.bool (Vh l f.progs.length):=by
 refine Ai.of_T [(0,_),(1,_)] func87 rfl ntmps87 sM rfl fun w0 hs=>?_
 have hQ10:=hQ1
 have hl0:=hl
 refine Wt 8 [0] hs rfl<|O_s (Sc (idxf_ok hQ1 hl hn (f:=f)) hs rfl fun v1 G' H' _ hR hG7 hs=>?_)
 obtain ⟨rfl,z,rfl,hz⟩:=hR
 replace hs:=hs.n rfl
 refine Zy hs (Yc rfl (fun h8=>?_) fun h8=>?_)
 ·
  refine Wp 2 [0] hs rfl<|Ah<|Zz results87 rfl ?_
  exact ⟨_,[],hs.done,rfl,congrArg Value.bool (by unfold Vh;rw [hz.1 oM];rfl)⟩
 refine Wp 2 [0] hs rfl<|Ah<|Zz results87 rfl ?_
 exact ⟨_,[],hs.done,rfl,congrArg Value.bool (by unfold Vh;rw [eq_comm,Bool.not_eq_false'];exact eq_true_of_ne_false fun h=>absurd (hz.2 h) oM)⟩
theorem pO {G:Ghost} {Ap An Ae Ar:Option Addr} {cp cn ce cr:Nat} {f:Bw} (hf:Hb G Ap An Ae Ar cp cn ce cr f) (hz:tY f) :
  Ai prog 90 [(.agg (fF Ap An Ae Ar cp cn ce cr f).toArray)] G [] fun r _ H'=>(Gk f.nodes.length f.edges=true∧∃ b,r=.tuple #[.map (some b),Vt]∧H'=[.obj b (.map (Ff eK f.edges).toArray f.edges.length)])∨(Gk f.nodes.length f.edges=false∧r=.tuple #[.map none,Vf]∧H'=[]):=by
 have hE:=hf.e
 have hez:=hz.e
 show Ai _ _ [.agg #[.slice Ap f.progs.length cp,.slice An f.nodes.length cn,.slice Ae f.edges.length ce,.slice Ar f.routes.length cr]] _ _ _
 refine Ai.of_T [(0,_)] func90 rfl ntmps90 sM rfl fun w0 hs=>?_
 have hE0:=hE
 refine Wt 2 [] hs rfl<|O_s (Sb hs rfl fun b1 _ hs=>Wp 5 [0] hs rfl<|O_s (Jw hs fun b9 _ hs =>Wp 10 [0,2,1,0] hs rfl ?_))
 have hs:=hs.f1.f1
 refine Zl [1,4,11,12,13] (fun m E w=>∃ (k:Nat) (G2:Ghost),k≤f.edges.length∧Hn f.nodes.length [] f.edges=Hn f.nodes.length (f.edges.take k) (f.edges.drop k)∧(f.edges.take k).Nodup∧m=f.edges.length-k∧E=⟨[],[(1,Vp b1),(4,.map (some b9)),(11,.slice Ae f.edges.length ce),(12,Vi ((f.edges.length:Nat):Int)),(13,Vi (k:Int))]⟩∧St ⟨w0,G,Bl []⟩ G2 [.obj b9 (.map (Ff eK (f.edges.take k)).toArray (f.edges.take k).length),.blk b1 43 [.slice Ap f.progs.length cp,.slice An f.nodes.length cn,.slice Ae f.edges.length ce,.slice Ar f.routes.length cr]] w) rfl (⟨0,_,by omega,rfl,by simp,rfl,rfl,hs⟩) fun m E w hI=>?_
 obtain ⟨k,G2,hk,hfo,hnd,rfl,rfl,hs⟩:=hI
 have hE:=hE0.mono hs.le
 refine Wt 2 [] hs rfl<|Zy hs (Yc rfl (fun h14=>?_) fun h14=>?_)
 ·
  refine Wp 9 [0] hs rfl<|Zy hs (Bv hE k underlying40 sizeOf70 rfl rfl rfl oM fun p16 c16 hp16 hc16 hR16 =>Zy hs (Cu (vs:=[Vi f.edges[k].1,Vi f.edges[k].2]) isAgg70 sizeOf70 rfl (hR16▸hp16) rfl<|O_s (Sa hs zeroValue70 rfl fun b6 _ hs=>Wp 1 [] hs rfl<|O_n (Sg hs rfl (rfl) fun _ hs=>Wp 6 [0,0] hs rfl<|Zy hs (Jy (a:=f.edges[k]) 1 rfl underlying113 keyE zeroValue3 hnd rfl rfl (fun hno=>?_) (fun hyes=>?_))))))
  ·
   refine Wp 10 [0] hs rfl<|Zg hs rfl (Du 0 underlying70 sizeOf3 rfl rfl rfl dC (m:=0) rfl<|Wp 4 [0,1,2] hs rfl<|Ch 25 rfl rfl (Sc (aU) hs rfl fun v1 G' H' _ hR hG31 hs=>?_))
   obtain ⟨rfl,rfl⟩:=hR
   replace hs:=hs.n rfl
   cases h31:Rc f.edges[k].1 (f.nodes.length:Int)
   ·
    refine Wp 25 [8,1,4,5,6,11,12,13,49,0] hs rfl<|Ah ?_
    refine Bi (vs:=[_,_]) results90 rfl ⟨rfl,rfl,trivial⟩ ?_
    try dsimp only [tup]
    exact ⟨_,[],hs.done,.inr ⟨by unfold Gk;rw [hfo];exact Wq oM (.inr (.inl h31)),rfl,rfl⟩⟩
   refine Wp 3 [] hs rfl<|Zg hs rfl (Du 1 underlying70 sizeOf3 rfl rfl rfl dC (m:=1) rfl<|Wp 4 [0,1,2] hs rfl<|Ch 34 rfl rfl (Sc (aU) hs rfl fun v2 G' H' _ hR hG40 hs=>?_))
   obtain ⟨rfl,rfl⟩:=hR
   replace hs:=hs.n rfl
   cases h40:Rc f.edges[k].2 (f.nodes.length:Int)
   ·
    refine Wp 16 [8,1,4,5,6,11,12,13,49,0] hs rfl<|Ah ?_
    refine Bi (vs:=[_,_]) results90 rfl ⟨rfl,rfl,trivial⟩ ?_
    try dsimp only [tup]
    exact ⟨_,[],hs.done,.inr ⟨by unfold Gk;rw [hfo];exact Wq oM (.inr (.inr (.inl h40))),rfl,rfl⟩⟩
   refine Wp 3 [] hs rfl<|Zg hs rfl (Du 0 underlying70 sizeOf3 rfl rfl rfl dC (m:=0) rfl<|Wp 1 [0] hs rfl<|Zg hs rfl (Du 1 underlying70 sizeOf3 rfl rfl rfl dC (m:=1) rfl<|Wp 1 [0] hs rfl<|Zg hs rfl (Yc rfl (fun h48=>?_) fun h48=>?_)))
   ·
    refine Wp 8 [8,1,4,5,6,11,12,13,49,0] hs rfl<|Ah ?_
    refine Bi (vs:=[_,_]) results90 rfl ⟨rfl,rfl,trivial⟩ ?_
    try dsimp only [tup]
    exact ⟨_,[],hs.done,.inr ⟨by unfold Gk;rw [hfo];exact Wq oM (.inr (.inr (.inr h48))),rfl,rfl⟩⟩
   refine Wp 8 [8,1,4,5,6,11,12,13,49,0] hs rfl<|O_n (Yd (a:=f.edges[k]) hs.f1 underlying113 keyE hnd hno rfl rfl (by rw [List.length_take,Nat.min_eq_left oM];rfl) fun _ hs =>Wp 2 [0] hs rfl<|Zy hs (Ya (s:=((k+1:Nat):Int)) rfl<|Wp 1 [] hs rfl ?_))
   have hs:=hs.f2.f1
   have hst:=edges_T oM hno h31 h40 h48
   refine Zx [1,4,11,12,13] rfl ⟨k+1,_,by omega,by rw [hfo,hst.1],mR oM hnd (fun h=>hno (Fy.2 h)),rfl,rfl,Bz (hs.weak hs.le (gLr _) (lSa [_,_] _)) (by rw [List.take_add_one,List.getElem?_eq_getElem oM];rfl)⟩
  refine Wp 41 [0,8,1,4,5,6,11,12,13,49,0] hs rfl<|Ah ?_
  refine Bi (vs:=[_,_]) results90 rfl ⟨rfl,rfl,trivial⟩ ?_
  try dsimp only [tup]
  exact ⟨_,[],hs.done,.inr ⟨by unfold Gk;rw [hfo];exact Wq oM (.inl hyes),rfl,rfl⟩⟩
 refine Wp 4 [0] hs rfl<|Wu 6 [0] hs rfl<|Ah ?_
 refine Bi (vs:=[_,_]) results90 rfl ⟨rfl,rfl,trivial⟩ ?_
 try dsimp only [tup]
 obtain rfl:k=f.edges.length:=by omega
 rw [List.take_length] at hs
 exact ⟨_,_,hs.weak hs.le (gLr _) (lSa [_] _),.inl ⟨by unfold Gk;rw [hfo,List.drop_length];rfl,b9,rfl,rfl⟩⟩
theorem dW {l:List Int} {k:Nat} (h:k<l.length) (h0:¬ k=0):(l.take k).getLast?=some (l[k-1]'oM):=by
  rw [List.getLast?_eq_getElem?,List.length_take,Nat.min_eq_left oM,List.getElem?_take_of_lt oM,List.getElem?_eq_getElem oM]
theorem Eh {α:Type} {l:List α} {k:Nat} (h:k<l.length):l.take (k+1)=l.take k++[l[k]]:=by rw [List.take_add_one,List.getElem?_eq_getElem h];rfl
theorem jN {es:List (Int×Int)} {l:List Int} {k:Nat} (h:k<l.length) (h1:(l.take k).contains l[k]=false) (h2:k=0∨Sx es (l.take k).getLast? l[k]=true):Ep es (l.take k) (l.drop k)=Ep es (l.take (k+1)) (l.drop (k+1)):=by
  rw [List.drop_eq_getElem_cons h,Ep,Eh h,h1]
  rcases h2 with rfl | h2
  · simp [Sx]
  · simp [h2]
theorem jO {es:List (Int×Int)} {l:List Int} {k:Nat} (h:k<l.length) (h1:(l.take k).contains l[k]=true∨Sx es (l.take k).getLast? l[k]=false):Ep es (l.take k) (l.drop k)=false:=by
  rw [List.drop_eq_getElem_cons h,Ep]
  rcases h1 with h1 | h1
  · rw [h1];rfl
  · rw [h1];simp
theorem link_T {es:List (Int×Int)} {l:List Int} {k:Nat} (h:k<l.length) (h0:¬ k=0) (hp:Da ((l[k-1]'oM),l[k]) es<es.length):Sx es (l.take k).getLast? l[k]=true:=by
  rw [dW h h0];exact decide_eq_true (Fy.1 hp)
theorem link_F {es:List (Int×Int)} {l:List Int} {k:Nat} (h:k<l.length) (h0:¬ k=0) (hp:¬ Da ((l[k-1]'oM),l[k]) es<es.length):Sx es (l.take k).getLast? l[k]=false:=by
  rw [dW h h0];exact decide_eq_false fun hm=>hp (Fy.2 hm)
theorem frte_ok {G:Ghost} {b:Nat} {v:Value} {es:List (Int×Int)} {l:List Int} (hnd:es.Nodup) (hl:Bt G v l) (hn:l.length≤1000) :
  Ai prog 91 [.map (some b),v] G [.obj b (.map (Ff eK es).toArray es.length)] fun r _ H'=>r=.bool (Gg es l)∧H'=[.obj b (.map (Ff eK es).toArray es.length)]:=by
 obtain ⟨Al,cl,rfl,_⟩:=id hl
 refine Ai.of_T [(0,_),(1,_)] func91 rfl ntmps91 sM rfl fun w0 hs=>?_
 have hl0:=hl
 refine Wt 9 [0] hs rfl<|Zy hs (Yc rfl (fun h11=>?_) fun h11=>?_)
 ·
  refine Wp 11 [0,0] hs rfl<|Ah<|Zz results91 rfl ?_
  exact ⟨_,_,hs,congrArg Value.bool (by rw [eq_comm];unfold Gg;rw [decide_eq_false oM];rfl),rfl⟩
 refine Wp 3 [] hs rfl<|Zg hs rfl (Yc rfl (fun h15=>?_) fun h15=>?_)
 ·
  refine Wp 7 [0,0] hs rfl<|Ah<|Zz results91 rfl ?_
  exact ⟨_,_,hs,congrArg Value.bool (by rw [eq_comm];unfold Gg;rw [decide_eq_false oM];rfl),rfl⟩
 refine Wp 11 [0,0] hs rfl<|Zl [0,1,17,18,19] (fun m E w=>∃ (k:Nat) (G2:Ghost),k≤l.length∧Ep es [] l=Ep es (l.take k) (l.drop k)∧m=l.length-k∧E=⟨[],[(0,.map (some b)),(1,(.slice Al l.length cl)),(17,(.slice Al l.length cl)),(18,Vi ((l.length:Nat):Int)),(19,Vi (k:Int))]⟩∧St ⟨w0,G,Bl [.obj b (.map (Ff eK es).toArray es.length)]⟩ G2 [.obj b (.map (Ff eK es).toArray es.length)] w) rfl (⟨0,_,by omega,by simp,rfl,rfl,hs⟩) fun m E w hI=>?_
 obtain ⟨k,G2,hk,hfo,rfl,rfl,hs⟩:=hI
 have hl:=hl0.mono hs.le
 refine Wt 2 [] hs rfl<|Zy hs (Yc rfl (fun h20=>?_) fun h20=>?_)
 ·
  refine Wp 9 [0] hs rfl<|Zy hs (Dl hl k underlying33 sizeOf3 rfl rfl rfl oM fun p22 hp22 =>Zy hs (Yg rfl (hp22)<|Wp 8 [0] hs rfl<|Zy hs (Nt hl 0 k underlying33 sizeOf3 rfl rfl ⟨_,_,rfl,rfl⟩ oM oM fun s26 hs26=>?_)))
  obtain ⟨A26,c26,rfl,_⟩:=id hs26
  refine Wp 1 [] hs rfl<|O_s (Sc (So hs26 Nj) hs rfl fun v1 G' H' _ hR hG28 hs=>?_)
  obtain ⟨rfl,rfl⟩:=hR
  replace hs:=hs.n rfl
  replace hl:=hl.mono hG28
  cases h28:((l.drop 0).take (k-0)).contains (l[k]'oM)
  ·
   refine Wp 7 [0] hs rfl<|Zy hs (Yc rfl (fun h30=>?_) fun h30=>?_)
   ·
    refine Wp 4 [0] hs rfl<|Zy hs (Ya (s:=((k+1:Nat):Int)) rfl<|Wp 1 [] hs rfl ?_)
    have hst:=jN (es:=es) (l:=l) (k:=k) oM (by simpa using h28) (.inl oM)
    refine Zx [0,1,17,18,19] rfl ⟨k+1,_,by omega,by rw [hfo,hst],rfl,rfl,hs⟩
   refine Wp 8 [0] hs rfl<|Zy hs (Fc (c:=((k-1:Nat):Int)) rfl rfl oM oM<|Zy hs (Dl hl (k-1) underlying33 sizeOf3 rfl rfl rfl oM fun p36 hp36 =>Zy hs (Yg rfl (hp36)<|Wp 1 [] hs rfl<|Zy hs (Co underlying70 sizeOf3 zeroValue70 rfl rfl (cs:=[_,_]) rfl<|Zy hs (Jy (a:=((l[k-1]'oM),(l[k]'oM))) 0 rfl underlying113 keyE zeroValue3 hnd rfl rfl (fun hno=>?_) (fun hyes=>?_))))))
   ·
    refine Wp 16 [6,0,1,8,17,18,19,0,0] hs rfl<|Ah<|Zz results91 rfl ?_
    exact ⟨_,_,hs,congrArg Value.bool (by rw [eq_comm];unfold Gg;rw [decide_eq_true oM,Bool.true_and,hfo];exact jO oM (.inr (link_F oM oM hno))),rfl⟩
   refine Wp 14 [6,0,1,8,17,18,19,0] hs rfl<|Zy hs (Ya (s:=((k+1:Nat):Int)) rfl<|Wp 1 [] hs rfl ?_)
   have hst:=jN (es:=es) (l:=l) (k:=k) oM (by simpa using h28) (.inr (link_T oM oM hyes))
   refine Zx [0,1,17,18,19] rfl ⟨k+1,_,by omega,by rw [hfo,hst],rfl,rfl,hs⟩
  refine Wp 6 [0,0] hs rfl<|Ah<|Zz results91 rfl ?_
  exact ⟨_,_,hs,congrArg Value.bool (by rw [eq_comm];unfold Gg;rw [decide_eq_true oM,Bool.true_and,hfo];exact jO oM (.inl (by simpa using h28))),rfl⟩
 refine Wp 4 [0] hs rfl<|Wu 4 [0] hs rfl<|Ah<|Zz results91 rfl ?_
 obtain rfl:k=l.length:=by omega
 exact ⟨_,_,hs,congrArg Value.bool (by rw [eq_comm];unfold Gg;rw [decide_eq_true oM,Bool.true_and,hfo];rw [List.drop_length];rfl),rfl⟩
theorem fnum_T {G:Ghost} {Ap An Ae Ar:Option Addr} {cp cn ce cr:Nat} {f:Bw} (hf:Hb G Ap An Ae Ar cp cn ce cr f) (hz:tY f) (h:Gk f.nodes.length f.edges=true):Ai prog 90 [(.agg (fF Ap An Ae Ar cp cn ce cr f).toArray)] G [] fun r _ H'=>∃ b,r=.tuple #[.map (some b),Vt]∧H'=[.obj b (.map (Ff eK f.edges).toArray f.edges.length)]:=by
  refine (pO hf hz).mono fun r G' H' _ h2=>?_
  rcases h2 with ⟨_,h2⟩ | ⟨h3,_⟩
  · exact h2
  · rw [h] at h3;cases h3
theorem fnum_F {G:Ghost} {Ap An Ae Ar:Option Addr} {cp cn ce cr:Nat} {f:Bw} (hf:Hb G Ap An Ae Ar cp cn ce cr f) (hz:tY f) (h:Gk f.nodes.length f.edges=false):Ai prog 90 [(.agg (fF Ap An Ae Ar cp cn ce cr f).toArray)] G [] fun r _ H'=>H'=[]∧r=.tuple #[.map none,Vf]:=by
  refine (pO hf hz).mono fun r G' H' _ h2=>?_
  rcases h2 with ⟨h3,_⟩ | ⟨_,h4,h5⟩
  · rw [h] at h3;cases h3
  · exact ⟨h5,h4⟩
theorem Sy {n:Int}:∀ (l s:List (Int×Int)),s.Nodup→Hn n s l=true→(s++l).Nodup
  | [],s,hs,_=>by simpa using hs
  | e::l,s,hs,h=>by
    rw [Hn] at h
    simp only [Bool.and_eq_true,Bool.not_eq_true',decide_eq_false_iff_not] at h
    have:=Sy l (s++[e]) (by
      rw [List.nodup_append]
      exact ⟨hs,by simp,fun a ha b hb e'=>h.1 (by rw [List.mem_singleton.1 hb] at e';rw [← e'];exact ha)⟩) h.2.2.2.2
    simpa using this
theorem Ta {n:Int} {l:List (Int×Int)} (h:Gk n l=true):l.Nodup:=by simpa using Sy l [] List.nodup_nil h
theorem Mo {np:Int} {x:Lw} (h:x.vers.length<1∨8<x.vers.length∨Vh x.vers np=true∨Rc x.runs x.vers.length=false∨Rc x.claims x.vers.length=false):Ij np x=false:=by
  unfold Ij
  rcases h with h | h | h | h | h
  · rw [decide_eq_false oM];rfl
  · rw [decide_eq_false oM];rfl
  · unfold Vh at h
    rw [Bool.not_eq_true'] at h
    rw [h];simp
  · rw [h];simp
  · rw [h];simp
theorem yU {np:Int} {x:Lw} (h1:¬ x.vers.length<1) (h2:¬ 8<x.vers.length) (h3:Vh x.vers np=false) (h4:Rc x.runs x.vers.length=true) (h5:Rc x.claims x.vers.length=true):Ij np x=true:=by
  unfold Ij
  unfold Vh at h3
  rw [Bool.not_eq_false'] at h3
  rw [decide_eq_true oM,h3,h4,h5];rfl
theorem yV {α:Type} {l:List α} {q:α→Bool} {k:Nat} (h:k<l.length) (h1:(l.take k).all q=true) (h2:q l[k]=true):(l.take (k+1)).all q=true:=by
  rw [Eh h,List.all_append,h1];simp [h2]
theorem Tc {α:Type} {l:List α} {q:α→Bool} {k:Nat} (h:k<l.length) (h2:q l[k]=false):l.all q=false:=List.all_eq_false.2 ⟨l[k],List.getElem_mem _,by simp [h2]⟩
section
variable {f:Bw}
theorem mS (h:16<f.progs.length∨24<f.nodes.length∨100<f.routes.length):Dh f=2:=if_pos h
theorem pP (h0:¬ (16<f.progs.length∨24<f.nodes.length∨100<f.routes.length)) (h:f.progs.length=0∨f.nodes.length=0):Dh f=1:=by unfold Dh;rw [if_neg h0,if_pos h]
theorem ce_prog (h0:¬ (16<f.progs.length∨24<f.nodes.length∨100<f.routes.length)) (h1:¬ (f.progs.length=0∨f.nodes.length=0)) (h:f.progs.all (fun p=>decide (¬ p=tX))=false):Dh f=1:=by unfold Dh;rw [if_neg h0,if_neg h1,if_pos h]
theorem Mp (h0:¬ (16<f.progs.length∨24<f.nodes.length∨100<f.routes.length)) (h1:¬ (f.progs.length=0∨f.nodes.length=0)) (h2:f.progs.all (fun p=>decide (¬ p=tX))=true) (h:f.nodes.all (Ij f.progs.length)=false):Dh f=1:=by
  unfold Dh;rw [if_neg h0,if_neg h1,if_neg (by rw [h2];simp),if_pos h]
theorem ce_edge (h0:¬ (16<f.progs.length∨24<f.nodes.length∨100<f.routes.length)) (h1:¬ (f.progs.length=0∨f.nodes.length=0)) (h2:f.progs.all (fun p=>decide (¬ p=tX))=true) (h3:f.nodes.all (Ij f.progs.length)=true) (h:Gk f.nodes.length f.edges=false):Dh f=1:=by
  unfold Dh;rw [if_neg h0,if_neg h1,if_neg (by rw [h2];simp),if_neg (by rw [h3];simp),if_pos h]
theorem yW (h0:¬ (16<f.progs.length∨24<f.nodes.length∨100<f.routes.length)) (h1:¬ (f.progs.length=0∨f.nodes.length=0)) (h2:f.progs.all (fun p=>decide (¬ p=tX))=true) (h3:f.nodes.all (Ij f.progs.length)=true) (h4:Gk f.nodes.length f.edges=true) (h:f.routes.all (Gg f.edges)=false):Dh f=300:=by
  unfold Dh;rw [if_neg h0,if_neg h1,if_neg (by rw [h2];simp),if_neg (by rw [h3];simp),if_neg (by rw [h4];simp),if_pos h]
theorem ce_ok (h0:¬ (16<f.progs.length∨24<f.nodes.length∨100<f.routes.length)) (h1:¬ (f.progs.length=0∨f.nodes.length=0)) (h2:f.progs.all (fun p=>decide (¬ p=tX))=true) (h3:f.nodes.all (Ij f.progs.length)=true) (h4:Gk f.nodes.length f.edges=true) (h:f.routes.all (Gg f.edges)=true):Dh f=0:=by
  unfold Dh;rw [if_neg h0,if_neg h1,if_neg (by rw [h2];simp),if_neg (by rw [h3];simp),if_neg (by rw [h4];simp),if_neg (by rw [h];simp)]
end
theorem pQ {G:Ghost} {Ap An Ae Ar:Option Addr} {cp cn ce cr:Nat} {f:Bw} (hf:Hb G Ap An Ae Ar cp cn ce cr f) (hz:tY f) (hP:∀ p∈f.progs,OkP p) (hT:Tab G) :
  Ai prog 61 [(.agg (fF Ap An Ae Ar cp cn ce cr f).toArray)] G [] fun r _ H'=>(Dh f=0∧∃ b,r=.tuple #[.map (some b),Vi 0]∧H'=[.obj b (.map (Ff eK f.edges).toArray f.edges.length)])∨(¬ Dh f=0∧r=.tuple #[.map none,Vi (Dh f)]∧H'=[]):=by
 have hez:=hz.e
 have hnz:=hz.n
 show Ai _ _ [.agg #[.slice Ap f.progs.length cp,.slice An f.nodes.length cn,.slice Ae f.edges.length ce,.slice Ar f.routes.length cr]] _ _ _
 refine Ai.of_T [(0,_)] func61 rfl ntmps61 sM rfl fun w0 hs=>?_
 have hf0:=hf
 have hT0:=hT
 refine Wt 2 [] hs rfl<|O_s (Sb hs rfl fun b1 _ hs=>Wp 9 [0,0,0] hs rfl<|Zy hs (Yc rfl (fun h19=>?_) fun h19=>?_))
 ·
  refine Wp 19 [2,1,31,0] hs rfl<|Ah ?_
  refine Bi (vs:=[_,_]) results61 rfl ⟨rfl,rfl,trivial⟩ ?_
  try dsimp only [tup]
  have hce:=mS (f:=f) oM
  exact ⟨_,[],hs.done,.inr ⟨by omega,by rw [hce],rfl⟩⟩
 refine Wp 4 [1,0] hs rfl<|Zg hs rfl (Yc rfl (fun h24=>?_) fun h24=>?_)
 ·
  refine Wp 14 [2,1,31,0] hs rfl<|Ah ?_
  refine Bi (vs:=[_,_]) results61 rfl ⟨rfl,rfl,trivial⟩ ?_
  try dsimp only [tup]
  have hce:=mS (f:=f) oM
  exact ⟨_,[],hs.done,.inr ⟨by omega,by rw [hce],rfl⟩⟩
 refine Wp 5 [3,0] hs rfl<|Zg hs rfl (Yc rfl (fun h30=>?_) fun h30=>?_)
 ·
  refine Wp 8 [2,1,31,0] hs rfl<|Ah ?_
  refine Bi (vs:=[_,_]) results61 rfl ⟨rfl,rfl,trivial⟩ ?_
  try dsimp only [tup]
  have hce:=mS (f:=f) oM
  exact ⟨_,[],hs.done,.inr ⟨by omega,by rw [hce],rfl⟩⟩
 refine Wp 4 [2,1,31] hs rfl ?_
 have hb0:¬ (16<f.progs.length∨24<f.nodes.length∨100<f.routes.length):=by omega
 refine Wu 6 [0,0] hs rfl<|Zy hs (Yc rfl (fun h35=>?_) fun h35=>?_)
 ·
  refine Wp 13 [0,0] hs rfl<|Ah ?_
  refine Bi (vs:=[_,_]) results61 rfl ⟨rfl,rfl,trivial⟩ ?_
  try dsimp only [tup]
  have hce:=pP hb0 oM
  exact ⟨_,[],hs.done,.inr ⟨by omega,by rw [hce],rfl⟩⟩
 refine Wp 4 [1,0] hs rfl<|Zg hs rfl (Yc rfl (fun h40=>?_) fun h40=>?_)
 ·
  refine Wp 8 [0,0] hs rfl<|Ah ?_
  refine Bi (vs:=[_,_]) results61 rfl ⟨rfl,rfl,trivial⟩ ?_
  try dsimp only [tup]
  have hce:=pP hb0 oM
  exact ⟨_,[],hs.done,.inr ⟨by omega,by rw [hce],rfl⟩⟩
 refine Wp 4 [0] hs rfl ?_
 have hb1:¬ (f.progs.length=0∨f.nodes.length=0):=by omega
 refine Wu 8 [0,0,0] hs rfl<|Zl [1,43,44,45] (fun m E w=>∃ (k:Nat) (G2:Ghost),k≤f.progs.length∧(f.progs.take k).all (fun p=>decide (¬ p=tX))=true∧m=f.progs.length-k∧E=⟨[],[(1,Vp b1),(43,.slice Ap f.progs.length cp),(44,Vi ((f.progs.length:Nat):Int)),(45,Vi (k:Int))]⟩∧St ⟨w0,G,Bl []⟩ G2 [.blk b1 43 [.slice Ap f.progs.length cp,.slice An f.nodes.length cn,.slice Ae f.edges.length ce,.slice Ar f.routes.length cr]] w) rfl (⟨0,_,by omega,by simp,rfl,rfl,hs⟩) fun m E w hI=>?_
 obtain ⟨k,G2,hk,hpa,rfl,rfl,hs⟩:=hI
 have hf:=hf0.mono hs.le
 have hT:=hT0.mono hs.le
 refine Wt 2 [] hs rfl<|Zy hs (Yc rfl (fun h46=>?_) fun h46=>?_)
 ·
  refine Wp 8 [0] hs rfl<|Zy hs (Bv hf.p k underlying38 sizeOf102 rfl rfl rfl oM fun p47 c47 hp47 hc47 hR47=>?_)
  obtain ⟨u47,v47,rfl,⟨hS47,_⟩,⟨hB47,_⟩⟩:=id hR47
  obtain ⟨As,cs,rfl⟩:=Be.slice hS47
  obtain ⟨Ab,cb,rfl⟩:=Be.slice hB47
  refine Zy hs (Cu (vs:=[.slice As f.progs[k].stmts.length cs,.slice Ab f.progs[k].blocks.length cb]) isAgg102 sizeOf102 rfl hp47 rfl<|O_s (Sa hs zeroValue102 rfl fun b5 _ hs=>O_n (Sg hs rfl (rfl) fun _ hs=>Wp 4 [0,0] hs rfl<|O_s (Sc (yS hR47 (hP _ (List.getElem_mem _)) hT) hs rfl fun v1 G' H' _ hR hG51 hs=>?_))))
  obtain ⟨rfl,ua,ub,uc,rfl,hu51⟩:=hR
  replace hs:=hs.n rfl
  refine Wp 3 [] hs rfl<|O_s (Sa hs zeroValue152 rfl fun b6 _ hs=>O_n (Sg hs rfl (hu51) fun _ hs=>Wp 5 [0] hs rfl<|Zy hs (Yc rfl (fun h55=>?_) fun h55=>?_)))
  ·
   refine Wp 8 [0,0] hs rfl<|Ah ?_
   refine Bi (vs:=[_,_]) results61 rfl ⟨rfl,rfl,trivial⟩ ?_
   try dsimp only [tup]
   have hne:f.progs[k]=tX:=Classical.not_not.1 fun h=>h55 (if_neg h)
   have hce:=ce_prog hb0 hb1 (Tc (k:=k) oM (by simp [hne]))
   exact ⟨_,[],hs.done,.inr ⟨by omega,by rw [hce,show pN f.progs[k]=1 from if_pos hne]<;>rfl,rfl⟩⟩
  refine Wp 4 [0] hs rfl<|Zy hs (Ya (s:=((k+1:Nat):Int)) rfl<|Wp 1 [] hs rfl ?_)
  have hs:=hs.f2
  refine Zx [1,43,44,45] rfl ⟨k+1,_,by omega,yV oM hpa (decide_eq_true fun h=>by rw [show pN f.progs[k]=1 from if_pos h] at h55;exact h55 dC),rfl,rfl,hs.weak hs.le (gLr _) (lSa [_] _)⟩
 refine Wp 4 [0] hs rfl ?_
 obtain rfl:k=f.progs.length:=by omega
 rw [List.take_length] at hpa
 obtain ⟨_,hGbhQ1,hQ1,hs⟩:=hs.fixBlk (fun k _=>Ht k)
 replace hf:=hf.mono hGbhQ1
 replace hT:=hT.mono hGbhQ1
 replace hQ1:Br _ b1 _:=hQ1
 refine Wu 4 [1] hs rfl<|Zy hs (Yg rfl (hQ1 1 _ rfl)<|Wp 3 [0] hs rfl<|Zl [1,59,60,61] (fun m E w=>∃ (k:Nat) (G2:Ghost),k≤f.nodes.length∧(f.nodes.take k).all (Ij f.progs.length)=true∧Br G2 b1 [.slice Ap f.progs.length cp,.slice An f.nodes.length cn,.slice Ae f.edges.length ce,.slice Ar f.routes.length cr]∧m=f.nodes.length-k∧E=⟨[],[(1,Vp b1),(59,.slice An f.nodes.length cn),(60,Vi ((f.nodes.length:Nat):Int)),(61,Vi (k:Int))]⟩∧St ⟨w0,G,Bl []⟩ G2 [] w) rfl (⟨0,_,by omega,by simp,hQ1,rfl,rfl,hs⟩) fun m E w hI=>?_)
 obtain ⟨k,G2,hk,hna,hQ1,rfl,rfl,hs⟩:=hI
 have hf:=hf0.mono hs.le
 have hT:=hT0.mono hs.le
 refine Wt 2 [] hs rfl<|Zy hs (Yc rfl (fun h62=>?_) fun h62=>?_)
 ·
  refine Wp 8 [0] hs rfl<|Zy hs (Bv hf.n k underlying39 sizeOf76 rfl rfl rfl oM fun p63 c63 hp63 hc63 hR63=>?_)
  obtain ⟨u63,rfl,hv63⟩:=hR63
  obtain ⟨Av,cv,rfl,_⟩:=id hv63
  refine Zy hs (Cu (vs:=[.slice Av f.nodes[k].vers.length cv,Vi f.nodes[k].runs,Vi f.nodes[k].claims,.bool f.nodes[k].up]) isAgg76 sizeOf76 rfl hp63 rfl<|O_s (Sa hs zeroValue76 rfl fun b9 _ hs=>O_n (Sg hs rfl (rfl) fun _ hs=>Wp 12 [0,0,0,0,0,0] hs rfl<|Zy hs (Dn (vs:=[_]) rfl<|O_s (Sc (conf_ok hQ1 hv63 (hz.v _ (List.getElem_mem _)) (f:=f)) hs rfl fun v2 G' H' _ hR hG71 hs=>?_)))))
  obtain ⟨rfl,rfl⟩:=hR
  replace hs:=hs.n rfl
  replace hQ1:=hQ1.mono hG71
  cases h71:Vh f.nodes[k].vers (f.progs.length:Int)
  ·
   refine Wp 5 [0] hs rfl<|Zy hs (Yc rfl (fun h73=>?_) fun h73=>?_)
   ·
    refine Wp 28 [5,1,59,60,61,94,0] hs rfl<|Ah ?_
    refine Bi (vs:=[_,_]) results61 rfl ⟨rfl,rfl,trivial⟩ ?_
    try dsimp only [tup]
    have hce:=Mp hb0 hb1 hpa (Tc (k:=k) oM (Mo (.inl oM)))
    exact ⟨_,[],hs.done,.inr ⟨by omega,by rw [hce],rfl⟩⟩
   refine Wp 2 [] hs rfl<|Zg hs rfl (Yc rfl (fun h76=>?_) fun h76=>?_)
   ·
    refine Wp 25 [5,1,59,60,61,94,0] hs rfl<|Ah ?_
    refine Bi (vs:=[_,_]) results61 rfl ⟨rfl,rfl,trivial⟩ ?_
    try dsimp only [tup]
    have hce:=Mp hb0 hb1 hpa (Tc (k:=k) oM (Mo (.inr (.inl oM))))
    exact ⟨_,[],hs.done,.inr ⟨by omega,by rw [hce],rfl⟩⟩
   refine Wp 8 [1,0] hs rfl<|Ch 81 rfl rfl (Sc (aU) hs rfl fun v3 G' H' _ hR hG85 hs=>?_)
   obtain ⟨rfl,rfl⟩:=hR
   replace hs:=hs.n rfl
   replace hQ1:=hQ1.mono hG85
   cases h85:Rc f.nodes[k].runs (f.nodes[k].vers.length:Int)
   ·
    refine Wp 16 [5,1,59,60,61,94,0] hs rfl<|Ah ?_
    refine Bi (vs:=[_,_]) results61 rfl ⟨rfl,rfl,trivial⟩ ?_
    try dsimp only [tup]
    have hce:=Mp hb0 hb1 hpa (Tc (k:=k) oM (Mo (.inr (.inr (.inr (.inl h85))))))
    exact ⟨_,[],hs.done,.inr ⟨by omega,by rw [hce],rfl⟩⟩
   refine Wp 6 [2,0] hs rfl<|Ch 88 rfl rfl (Sc (aU) hs rfl fun v4 G' H' _ hR hG92 hs=>?_)
   obtain ⟨rfl,rfl⟩:=hR
   replace hs:=hs.n rfl
   replace hQ1:=hQ1.mono hG92
   cases h92:Rc f.nodes[k].claims (f.nodes[k].vers.length:Int)
   ·
    refine Wp 9 [5,1,59,60,61,94,0] hs rfl<|Ah ?_
    refine Bi (vs:=[_,_]) results61 rfl ⟨rfl,rfl,trivial⟩ ?_
    try dsimp only [tup]
    have hce:=Mp hb0 hb1 hpa (Tc (k:=k) oM (Mo (.inr (.inr (.inr (.inr h92))))))
    exact ⟨_,[],hs.done,.inr ⟨by omega,by rw [hce],rfl⟩⟩
   refine Wp 6 [5,1,59,60,61,94] hs rfl<|Zy hs (Ya (s:=((k+1:Nat):Int)) rfl<|Wp 1 [] hs rfl<|Zx [1,59,60,61] rfl ⟨k+1,_,by omega,yV oM hna (yU oM oM h71 h85 h92),hQ1,rfl,rfl,hs.done⟩)
  refine Wp 5 [0] hs rfl<|Zy hs (Yc rfl (fun h73=>?_) fun h73=>?_)
  ·
   refine Wp 28 [5,1,59,60,61,94,0] hs rfl<|Ah ?_
   refine Bi (vs:=[_,_]) results61 rfl ⟨rfl,rfl,trivial⟩ ?_
   try dsimp only [tup]
   have hce:=Mp hb0 hb1 hpa (Tc (k:=k) oM (Mo (.inl oM)))
   exact ⟨_,[],hs.done,.inr ⟨by omega,by rw [hce],rfl⟩⟩
  refine Wp 2 [] hs rfl<|Zg hs rfl (Yc rfl (fun h76=>?_) fun h76=>?_)
  ·
   refine Wp 25 [5,1,59,60,61,94,0] hs rfl<|Ah ?_
   refine Bi (vs:=[_,_]) results61 rfl ⟨rfl,rfl,trivial⟩ ?_
   try dsimp only [tup]
   have hce:=Mp hb0 hb1 hpa (Tc (k:=k) oM (Mo (.inr (.inl oM))))
   exact ⟨_,[],hs.done,.inr ⟨by omega,by rw [hce],rfl⟩⟩
  refine Wp 25 [5,1,59,60,61,94,0] hs rfl<|Ah ?_
  refine Bi (vs:=[_,_]) results61 rfl ⟨rfl,rfl,trivial⟩ ?_
  try dsimp only [tup]
  have hce:=Mp hb0 hb1 hpa (Tc (k:=k) oM (Mo (.inr (.inr (.inl h71)))))
  exact ⟨_,[],hs.done,.inr ⟨by omega,by rw [hce],rfl⟩⟩
 refine Wp 4 [0] hs rfl ?_
 obtain rfl:k=f.nodes.length:=by omega
 rw [List.take_length] at hna
 refine Wu 2 [] hs rfl<|Zy hs (Cu (vs:=[.slice Ap f.progs.length cp,.slice An f.nodes.length cn,.slice Ae f.edges.length ce,.slice Ar f.routes.length cr]) isAgg43 sizeOf43 rfl hQ1.whole rfl ?_)
 cases he98:Gk f.nodes.length f.edges
 ·
  refine O_s (Sc (fnum_F hf hz he98) hs rfl fun v5 G' H' _ hR hG98 hs=>?_)
  obtain ⟨rfl,rfl⟩:=hR
  replace hs:=hs.n rfl
  refine Wp 18 [0,0,0] hs rfl<|Ah ?_
  refine Bi (vs:=[_,_]) results61 rfl ⟨rfl,rfl,trivial⟩ ?_
  try dsimp only [tup]
  have hce:=ce_edge hb0 hb1 hpa hna he98
  exact ⟨_,[],hs.done,.inr ⟨by omega,by rw [hce],rfl⟩⟩
 refine O_s (Sc (fnum_T hf hz he98) hs rfl fun v6 G' H' _ hR hG98 hs=>?_)
 obtain ⟨b98,rfl,rfl⟩:=hR
 replace hs:=hs.n rfl
 replace hf:=hf.mono hG98
 replace hQ1:=hQ1.mono hG98
 refine Wp 18 [0,0,3] hs rfl<|Zy hs (Yg rfl (hQ1 3 _ rfl)<|Wp 3 [0] hs rfl<|Zl [12,104,105,106] (fun m E w=>∃ (k:Nat) (G2:Ghost),k≤f.routes.length∧(f.routes.take k).all (Gg f.edges)=true∧m=f.routes.length-k∧E=⟨[],[(12,.map (some b98)),(104,.slice Ar f.routes.length cr),(105,Vi ((f.routes.length:Nat):Int)),(106,Vi (k:Int))]⟩∧St ⟨w0,G,Bl []⟩ G2 [.obj b98 (.map (Ff eK f.edges).toArray f.edges.length)] w) rfl (⟨0,_,by omega,by simp,rfl,rfl,hs⟩) fun m E w hI=>?_)
 obtain ⟨k,G2,hk,hra,rfl,rfl,hs⟩:=hI
 have hf:=hf0.mono hs.le
 refine Wt 2 [] hs rfl<|Zy hs (Yc rfl (fun h107=>?_) fun h107=>?_)
 ·
  refine Wp 8 [0] hs rfl<|Zy hs (Bv hf.r k underlying41 sizeOf33 rfl rfl rfl oM fun p108 c108 hp108 hc108 hR108=>?_)
  obtain ⟨u108,rfl,hv108⟩:=hR108
  obtain ⟨Ar8,cr8,rfl,_⟩:=id hv108
  refine Zy hs (Yg rfl (hp108 0 (.slice Ar8 f.routes[k].length cr8) rfl)<|Wp 6 [0] hs rfl<|O_s (Sc (frte_ok (Ta he98) hv108 (hz.r _ (List.getElem_mem _))) hs rfl fun v7 G' H' _ hR hG112 hs=>?_))
  obtain ⟨rfl,rfl⟩:=hR
  replace hs:=hs.n rfl
  cases h112:Gg f.edges f.routes[k]
  ·
   refine Wp 8 [0,0] hs rfl<|Ah ?_
   refine Bi (vs:=[_,_]) results61 rfl ⟨rfl,rfl,trivial⟩ ?_
   try dsimp only [tup]
   have hce:=yW hb0 hb1 hpa hna he98 (Tc (k:=k) oM h112)
   exact ⟨_,[],hs.done,.inr ⟨by omega,by rw [hce],rfl⟩⟩
  refine Wp 5 [0] hs rfl<|Zy hs (Ya (s:=((k+1:Nat):Int)) rfl<|Wp 1 [] hs rfl<|Zx [12,104,105,106] rfl ⟨k+1,_,by omega,yV oM hra h112,rfl,rfl,hs⟩)
 refine Wp 4 [0] hs rfl<|Wu 6 [0] hs rfl<|Ah ?_
 refine Bi (vs:=[_,_]) results61 rfl ⟨rfl,rfl,trivial⟩ ?_
 try dsimp only [tup]
 obtain rfl:k=f.routes.length:=by omega
 rw [List.take_length] at hra
 exact ⟨_,_,hs.weak hs.le (gLr _) (lSa [_] _),.inl ⟨ce_ok hb0 hb1 hpa hna he98 hra,b98,rfl,rfl⟩⟩
theorem yX {G:Ghost} {Ap An Ae Ar:Option Addr} {cp cn ce cr:Nat} {f:Bw} (hf:Hb G Ap An Ae Ar cp cn ce cr f) (hz:tY f) (hP:∀ p∈f.progs,OkP p) (hT:Tab G) (h:Dh f=0):Ai prog 61 [(.agg (fF Ap An Ae Ar cp cn ce cr f).toArray)] G [] fun r _ H'=>∃ b,r=.tuple #[.map (some b),Vi 0]∧H'=[.obj b (.map (Ff eK f.edges).toArray f.edges.length)]:=by
  refine (pQ hf hz hP hT).mono fun r G' H' _ h2=>?_
  rcases h2 with ⟨_,h2⟩ | ⟨h3,_⟩
  · exact h2
  · exact absurd h h3
theorem fchk_F {G:Ghost} {Ap An Ae Ar:Option Addr} {cp cn ce cr:Nat} {f:Bw} (hf:Hb G Ap An Ae Ar cp cn ce cr f) (hz:tY f) (hP:∀ p∈f.progs,OkP p) (hT:Tab G) (h:¬ Dh f=0):Ai prog 61 [(.agg (fF Ap An Ae Ar cp cn ce cr f).toArray)] G [] fun r _ H'=>H'=[]∧r=.tuple #[.map none,Vi (Dh f)]:=by
  refine (pQ hf hz hP hT).mono fun r G' H' _ h2=>?_
  rcases h2 with ⟨h3,_⟩ | ⟨_,h4,h5⟩
  · exact absurd h3 h
  · exact ⟨h5,h4⟩
theorem On {f:Bw} (h:Dh f=0):¬ (16<f.progs.length∨24<f.nodes.length∨100<f.routes.length)∧¬ (f.progs.length=0∨f.nodes.length=0)∧f.nodes.all (Ij f.progs.length)=true∧Gk f.nodes.length f.edges=true∧f.routes.all (Gg f.edges)=true:=by
  unfold Dh at h
  split at h
  · cases h
  · rename_i h0
    split at h
    · cases h
    · rename_i h1
      split at h
      · cases h
      · split at h
        · cases h
        · rename_i h3
          split at h
          · cases h
          · rename_i h4
            split at h
            · cases h
            · rename_i h5
              exact ⟨h0,h1,by simpa using h3,by simpa using h4,by simpa using h5⟩
theorem Lx {np:Int} {x:Lw} (h:Ij np x=true):1≤x.vers.length∧x.vers.length≤8∧(∀ v∈x.vers,0≤v∧v<np)∧(0≤x.runs∧x.runs<x.vers.length)∧(0≤x.claims∧x.claims<x.vers.length):=by
  unfold Ij at h
  simp only [Bool.and_eq_true,decide_eq_true_eq,List.all_eq_true] at h
  exact ⟨h.1.1,h.1.2,fun v hv=>Hz.1 (h.2.1 v hv),Hz.1 h.2.2.1,Hz.1 h.2.2.2⟩
def Wr (a b:Int):Bool:=decide (a<b)
theorem ordI:Ordr Wr:=⟨fun a b h=>by simp only [Wr,decide_eq_true_eq,decide_eq_false_iff_not] at *;omega,fun a b c h1 h2=>by simp only [Wr,decide_eq_false_iff_not] at *;omega⟩
section
variable {α:Type}
theorem sw_row {f:α→Value} {p p' t:List α} {x y:α} (h:p=p'++[y]):((((p++x::t).map f).set p.length (f y)).set (p.length-1) (f x))=(p'++x::y::t).map f:=by
  subst h
  have h1:=uT (p:=p') (t:=t) (x:=x) (y:=y)
  rw [← h1,List.map_set,List.map_set]
  simp
theorem yY {f:α→Value} {p t:List α} {x:α}:((p++x::t).map f)[p.length]?=some (f x):=by simp
theorem yZ {f:α→Value} {p p' t:List α} {x y:α} (h:p=p'++[y]):((p++x::t).map f)[p.length-1]?=some (f y):=by subst h;simp
theorem last_of {p:List α} (h:0<p.length):∃ p' y,p=p'++[y]:=by
  rcases List.eq_nil_or_concat p with rfl | ⟨p',y,rfl⟩
  · cases h
  · exact ⟨p',y,List.concat_eq_append⟩
theorem head_of {s r:List α} {i n:Nat} (h1:(s++r).length=n) (h2:i<n) (h3:s.length=i∨r=[]) (h4:s.length≤i):∃ x r',r=x::r'∧s.length=i:=by
  cases r with
  | nil=>rw [List.append_nil] at h1;omega
  | cons x r' =>
    rcases h3 with h3 | h3
    · exact ⟨x,r',rfl,h3⟩
    · cases h3
end
theorem srt_one {α:Type} {lt:α→α→Bool} (l:List α):Srt lt (l.take 1):=by
  cases l with
  | nil=>exact List.Pairwise.nil
  | cons a l=>exact List.pairwise_singleton _ _
theorem fG {G:Ghost} {s:Int} :
  Ai prog 65 [Vi s] G [] fun r _ H'=>H'=[]∧r=Vf:=by
 refine Ai.of_T [(0,_)] func65 rfl ntmps65 sM rfl fun w0 hs =>Wt 8 [0] hs rfl<|Zy hs (Di rfl rfl rfl oM<|Wp 2 [0] hs rfl<|Ah<|Zz results65 rfl ?_)
 exact ⟨_,[],hs.done,rfl,rfl⟩
theorem zA {G:Ghost} {s t:Int} :
  Ai prog 122 [Vi s,Vi t] G [] fun r _ H'=>H'=[]∧r=.bool (Wr s t):=by
 refine Ai.of_T [(0,_),(1,_)] func122 rfl ntmps122 sM rfl fun w0 hs =>Wt 7 [0] hs rfl<|O_s (Sc (fG) hs rfl fun v1 G' H' _ hR hG6 hs=>?_)
 obtain ⟨rfl,rfl⟩:=hR
 replace hs:=hs.n rfl
 refine Wp 8 [] hs rfl<|Zg hs rfl (Yc rfl (fun h15=>?_) fun h15=>?_)
 ·
  refine Wp 3 [0] hs rfl<|Ah<|Zz results122 rfl ?_
  exact ⟨_,[],hs.done,rfl,congrArg Value.bool (by unfold Wr;rw [eq_comm];exact decide_eq_true oM)⟩
 refine Wp 3 [0] hs rfl<|Ah<|Zz results122 rfl ?_
 exact ⟨_,[],hs.done,rfl,congrArg Value.bool (by unfold Wr;rw [eq_comm];exact decide_eq_false oM)⟩
theorem insi_ok {G:Ghost} {bq cq n:Nat} {l:List Int} (hl:l.length=n) (hn:n≤12) :
  Ai prog 116 [Vs bq n cq,Vi 0,Vi (n:Int)] G [.row 3 1 (Vs bq n cq) n (l.map (.int .i64))] fun r _ H'=>∃ l',l'.Perm l∧Srt Wr l'∧H'=[.row 3 1 (Vs bq n cq) n (l'.map (.int .i64))]:=by
 refine Ai.of_T [(0,_),(1,_),(2,_)] func116 rfl ntmps116 sM rfl fun w0 hs =>Wt 3 [] hs rfl<|Zy hs (Eb rfl rfl rfl oM<|Wp 2 [0] hs rfl<|Zl [0,1,2,6] (fun m E w=>∃ (i:Nat) (s r:List Int) (G2:Ghost),1≤i∧i≤13∧s.length≤i∧(s.length=i∨r=[])∧Srt Wr s∧(s++r).Perm l∧m=n-i∧E=⟨[],[(0,(Vs bq n cq)),(1,Vi 0),(2,Vi (n:Int)),(6,Vi (i:Int))]⟩∧St ⟨w0,G,Bl [.row 3 1 (Vs bq n cq) n (l.map (.int .i64))]⟩ G2 [.row 3 1 (Vs bq n cq) n ((s++r).map (.int .i64))] w) rfl (⟨1,l.take 1,l.drop 1,_,by omega,by omega,by rw [List.length_take];omega,by rw [List.length_take];rcases Nat.eq_zero_or_pos l.length with h0 | h0;exact .inr (List.drop_eq_nil_of_le oM);exact .inl oM,srt_one _,by rw [List.take_append_drop],rfl,rfl,by rw [List.take_append_drop];exact hs⟩) fun m E w hI=>?_)
 obtain ⟨i,s,r,G2,hi1,hi2,hsi,hsr,hss,hpm,rfl,rfl,hs⟩:=hI
 have hpl:=hpm.length_eq
 refine Wt 5 [] hs rfl<|Zy hs (Yc rfl (fun h12=>?_) fun h12=>?_)
 ·
  refine Wp 10 [0,0] hs rfl ?_
  obtain ⟨x,r',rfl,hsl⟩:=head_of (n:=n) (i:=i) oM oM hsr hsi
  refine Zl [0,1,2,6,7] (fun m E w=>∃ (p q:List Int) (G2:Ghost),p.length+q.length=i∧Srt Wr (p++q)∧(∀ b∈q,Wr b x=false)∧(p++x::(q++r')).Perm l∧m=p.length∧E=⟨[],[(0,(Vs bq n cq)),(1,Vi 0),(2,Vi (n:Int)),(6,Vi (i:Int)),(7,Vi (p.length:Int))]⟩∧St ⟨w0,G,Bl [.row 3 1 (Vs bq n cq) n (l.map (.int .i64))]⟩ G2 [.row 3 1 (Vs bq n cq) n ((p++x::(q++r')).map (.int .i64))] w) rfl (⟨s,[],_,by simp;omega,by simpa using hss,by simp,by simpa using hpm,hsl.symm,by rw [hsl],by simpa using hs⟩) fun m E w hI=>?_
  obtain ⟨p,q,G2,hpi,hpq,hqx,hpx,rfl,rfl,hs⟩:=hI
  have hpl2:=hpx.length_eq
  refine Wt 2 [] hs rfl<|Bc [0,1,2,3,4,5,6,7,8,9,10,11,12,13,14] hs kR ?_
  replace hs:=hs.drew
  refine Xr [0,1] [] hs rfl<|Xt 2 hs rfl (Nr rfl rfl rfl (fun h18=>?_) (fun h18=>?_))
  ·
   dsimp only [Il] at h18
   refine Xr [3,4,5] [] hs rfl ?_
   obtain ⟨p',y,hpe⟩:=last_of (p:=p) oM
   refine Xt 6 hs rfl (Bj (p.length) underlying33 sizeOf3 rfl rfl rfl Z48<|Xt 7 hs rfl (Dg 0 rfl isAgg3 rfl (yY)<|Xr [8,9] [] hs rfl<|Xt 10 hs rfl (Fc (c:=((p.length-1:Nat):Int)) rfl rfl oM oM<|Xt 11 hs rfl (Bj (p.length-1) underlying33 sizeOf3 rfl rfl rfl Z48<|Xt 12 hs rfl (Dg 0 rfl isAgg3 rfl (yZ hpe) ?_)))))
   have hle:=hs.le
   refine Xo 13 rfl (Sc (zA) hs rfl fun v1 G' H' _ hR hG29 hs=>?_)
   obtain ⟨rfl,rfl⟩:=hR
   replace hs:=hs.n rfl
   cases h29:Wr x y
   ·
    refine Am hs hle hG29 (lSr _)<|Xr [14] [] hs rfl<|Xe (Zk [0,1,2,6,7,30] rfl<|Wu 2 [] hs rfl<|Wu 2 [] hs rfl<|Zy hs (Ya (s:=((i+1:Nat):Int)) rfl<|Wp 1 [] hs rfl ?_))
    have hst:Srt Wr (p++x::q):=Srt.stop ordI hpq hqx (.inr ⟨p',y,hpe,h29⟩)
    refine Zx [0,1,2,6] rfl ⟨i+1,p++x::q,r',_,by omega,by omega,by simp;omega,.inl Nj,hst,by simpa using hpx,rfl,rfl,Bz hs sM⟩
   refine Am hs hle hG29 (lSr _)<|Xr [14] [] hs rfl<|Xe (Zk [0,1,2,6,7,30] rfl<|Wu 4 [] hs rfl<|Bc [0,1,5,6,7,8,9,10,11,12,13,14] hs kR ?_)
   replace hs:=hs.drew
   refine Ky 2 rfl kR rfl (Tu rfl<|Ky 3 rfl kR rfl (Tu rfl<|Ky 4 rfl kR rfl (Fc (c:=((p.length - 1:Nat):Int)) rfl rfl oM oM<|Xr [0,1,5,6] [] hs rfl<|Xt 7 hs rfl (Fc (c:=((p.length - 1:Nat):Int)) rfl rfl oM oM<|Xt 8 hs rfl (Bj (p.length - 1) underlying33 sizeOf3 rfl rfl rfl Z48<|Xt 9 hs rfl (Dg 0 rfl isAgg3 rfl (yZ hpe)<|Xr [10,11] [] hs rfl<|Xt 12 hs rfl (Bj (p.length) underlying33 sizeOf3 rfl rfl rfl Z48<|Xt 13 hs rfl (Dg 0 rfl isAgg3 rfl (yY)<|Xt 14 hs rfl (Bj (p.length) underlying33 sizeOf3 rfl rfl rfl Z48<|Xn 15 rfl (Ct hs sizeOf3 rfl rfl rfl oM fun _ hs =>Xa 16 rfl (S_y hs rfl (Bj (p.length - 1) underlying33 sizeOf3 rfl rfl rfl Z48<|Xn 17 rfl (Ct hs sizeOf3 rfl rfl rfl oM fun _ hs =>Xe (Zk [0,1,2,6,7] rfl<|Wu 2 [] hs rfl<|Zy hs (Fc (c:=((p.length - 1:Nat):Int)) rfl rfl oM oM<|Wp 1 [] hs rfl ?_)))))))))))))))
   obtain ⟨hpq2,hqx2⟩:=Srt.swap (p:=p') (q:=q) ordI (by rw [← hpe];exact hpq) hqx h29
   have hpl3:p.length=p'.length+1:=by rw [hpe];simp
   refine Zx [0,1,2,6,7] rfl ⟨p',y::q,_,by simp;omega,hpq2,hqx2,by rw [hpe] at hpx;refine List.Perm.trans ?_ hpx;rw [List.append_assoc];exact List.Perm.append_left _ (List.Perm.swap _ _ _),rfl,by rw [hpl3];simp,Bz hs (by rw [sw_row hpe];simp)⟩
  dsimp only [Il] at h18
  refine Xr [3,4,5,6,7,8,9,10,11,12,13,14] [] hs rfl<|Xe (Zk [0,1,2,6,7,30] rfl<|Wu 2 [] hs rfl<|Wu 2 [] hs rfl<|Zy hs (Ya (s:=((i+1:Nat):Int)) rfl<|Wp 1 [] hs rfl ?_))
  have hst:Srt Wr (p++x::q):=Srt.stop ordI hpq hqx (.inl (List.eq_nil_of_length_eq_zero oM))
  refine Zx [0,1,2,6] rfl ⟨i+1,p++x::q,r',_,by omega,by omega,by simp;omega,.inl Nj,hst,by simpa using hpx,rfl,rfl,Bz hs sM⟩
 refine Wp 3 [0] hs rfl ?_
 try dsimp only [Ex.At,Ex.sqs,Ex.sq,Ex.lp,Ex.bk]
 try rw [show Nat.beq _ _=true from Nat.beq_refl _,cond_true]
 refine Ez (vs:=[]) results116 rfl trivial ?_
 try dsimp only [tup]
 have hre:r=[]:=by rcases hsr with h | h;exact List.eq_nil_of_length_eq_zero (by rw [List.length_append] at hpl;omega);exact h
 subst hre
 rw [List.append_nil] at hpm hs
 exact ⟨_,_,hs,s,hpm,hss,rfl⟩
theorem pdqi_ok {G:Ghost} {bq cq n:Nat} {z:Int} {l:List Int} (hl:l.length=n) (hn:n≤12) :
  Ai prog 92 [Vs bq n cq,Vi 0,Vi (n:Int),Vi z] G [.row 3 1 (Vs bq n cq) n (l.map (.int .i64))] fun r _ H'=>∃ l',l'.Perm l∧Srt Wr l'∧H'=[.row 3 1 (Vs bq n cq) n (l'.map (.int .i64))]:=by
 refine Ai.of_T [(0,_),(1,_),(2,_),(3,_)] func92 rfl ntmps92 sM rfl fun w0 hs =>Wt 8 [0,0] hs rfl<|Dp (Ej 1 (L:=[(0,_),(1,_),(2,_),(3,_),(8,_),(9,_)]) ⟨rfl,rfl,rfl,rfl,rfl,rfl,trivial⟩ (Gn<|Wt 5 [] hs rfl<|Zy hs (Fc (c:=(n:Int)) rfl rfl oM oM<|Wp 6 [0] hs rfl<|Zy hs (Im rfl rfl rfl oM<|Wp 7 [0] hs rfl<|O_s (Sc (insi_ok hl hn) hs rfl fun v1 G' H' _ hR hG27 hs=>?_)))))
 obtain ⟨l',hpl,hsl,rfl⟩:=hR
 replace hs:=hs.n rfl
 refine Wp 1 [0] hs rfl<|Ah ?_
 refine Bi (vs:=[]) results92 rfl trivial ?_
 try dsimp only [tup]
 exact ⟨_,_,hs,l',hpl,hsl,rfl⟩
theorem srti_ok {G:Ghost} {bq cq n:Nat} {l:List Int} (hl:l.length=n) (hn:n≤12) :
  Ai prog 62 [Vs bq n cq] G [.row 3 1 (Vs bq n cq) n (l.map (.int .i64))] fun r _ H'=>∃ l',l'.Perm l∧Srt Wr l'∧H'=[.row 3 1 (Vs bq n cq) n (l'.map (.int .i64))]:=by
 refine Ai.of_T [(0,_)] func62 rfl ntmps62 sM rfl fun w0 hs =>Wt 10 [0] hs rfl<|Zy hs (Dj underlying3 underlying162 (c:=(n:Int)) rfl (by rw [IntKind.wrap_u64];omega)<|O_s (Sc (Wn (a:=n) oM) hs rfl fun v1 G' H' _ hR hG9 hs=>?_))
 obtain ⟨rfl,z,rfl⟩:=hR
 replace hs:=hs.n rfl
 refine O_s (Sc (pdqi_ok hl hn) hs rfl fun v2 G' H' _ hR hG10 hs=>?_)
 obtain ⟨l',hpl,hsl,rfl⟩:=hR
 replace hs:=hs.n rfl
 refine Cl (Ez (vs:=[]) results62 rfl trivial ?_)
 try dsimp only [tup]
 exact ⟨_,_,hs,l',hpl,hsl,rfl⟩
theorem insn_ok {G:Ghost} :
  Ai prog 116 [Vn,Vi 0,Vi 0] G [.row 3 1 (Vn) 0 []] fun r _ H'=>H'=[.row 3 1 (Vn) 0 []]:=by
 refine Ai.of_T [(0,_),(1,_),(2,_)] func116 rfl ntmps116 sM rfl fun w0 hs =>Wt 3 [] hs rfl<|Zy hs (Eb (c:=(1)) rfl rfl dC dC<|Wp 2 [0] hs rfl<|Dp (Ej 1 (L:=[(0,_),(1,_),(2,_),(6,_)]) ⟨rfl,rfl,rfl,rfl,trivial⟩ (Gn<|Wt 9 [0] hs rfl ?_)))
 try dsimp only [Ex.At,Ex.sqs,Ex.sq,Ex.lp,Ex.bk]
 try rw [show Nat.beq _ _=true from Nat.beq_refl _,cond_true]
 refine Ez (vs:=[]) results116 rfl trivial ?_
 try dsimp only [tup]
 exact ⟨_,_,hs,rfl⟩
theorem pdqn_ok {G:Ghost} {z:Int} :
  Ai prog 92 [Vn,Vi 0,Vi 0,Vi z] G [.row 3 1 (Vn) 0 []] fun r _ H'=>H'=[.row 3 1 (Vn) 0 []]:=by
 refine Ai.of_T [(0,_),(1,_),(2,_),(3,_)] func92 rfl ntmps92 sM rfl fun w0 hs =>Wt 8 [0,0] hs rfl<|Dp (Ej 1 (L:=[(0,_),(1,_),(2,_),(3,_),(8,_),(9,_)]) ⟨rfl,rfl,rfl,rfl,rfl,rfl,trivial⟩ (Gn<|Wt 5 [] hs rfl<|Zy hs (Fc (c:=(0)) rfl rfl dC dC<|Wp 14 [0,0] hs rfl<|O_s (Sc (insn_ok) hs rfl fun v1 G' H' _ hR hG27 hs=>?_))))
 obtain rfl:=hR
 replace hs:=hs.n rfl
 refine Wp 1 [0] hs rfl<|Ah ?_
 refine Bi (vs:=[]) results92 rfl trivial ?_
 try dsimp only [tup]
 exact ⟨_,_,hs,rfl⟩
theorem srtn_ok {G:Ghost} :
  Ai prog 62 [Vn] G [.row 3 1 (Vn) 0 []] fun r _ H'=>H'=[.row 3 1 (Vn) 0 []]:=by
 refine Ai.of_T [(0,_)] func62 rfl ntmps62 sM rfl fun w0 hs =>Wt 10 [0] hs rfl<|Zy hs (Dj underlying3 underlying162 (c:=0) rfl dC<|O_s (Sc (Wn (a:=0) oM) hs rfl fun v1 G' H' _ hR hG9 hs=>?_))
 obtain ⟨rfl,z,rfl⟩:=hR
 replace hs:=hs.n rfl
 refine O_s (Sc (pdqn_ok) hs rfl fun v2 G' H' _ hR hG10 hs=>?_)
 obtain rfl:=hR
 replace hs:=hs.n rfl
 refine Cl (Ez (vs:=[]) results62 rfl trivial ?_)
 try dsimp only [tup]
 exact ⟨_,_,hs,rfl⟩
section
variable {α:Type} [DecidableEq α]
theorem Ur {l:List α} (h:l.length<2):Gh l=l:=by
  match l,h with
  | [],_=>rfl
  | [a],_=>rfl
theorem tG {l:List α}:Gh (l.take 1)=l.take 1:=Ur (by rw [List.length_take];omega)
theorem mT {l:List α} {i:Nat} (h1:1≤i) (h:i≤l.length):(l.take i).getLast?=some (l[i-1]'oM):=by
  rw [List.getLast?_eq_getElem?,List.length_take,Nat.min_eq_left h,List.getElem?_take_of_lt oM,List.getElem?_eq_getElem oM]
theorem Td {l:List α} {i:Nat} (h1:1≤i) (h:i<l.length):Gh (l.take (i+1))=if l[i-1]'oM=l[i] then Gh (l.take i) else Gh (l.take i)++[l[i]]:=by
  rw [Eh h,Pb,rI,mT h1 oM]
  simp only [Option.some.injEq]
theorem cpt_new {l:List α} {i:Nat} (h1:1≤i) (h:i<l.length) (hd:Gh (l.take i)=l.take i) (hn:¬ l[i]=l[i-1]'oM):Gh (l.take (i+1))=l.take (i+1):=by
  rw [Td h1 h,if_neg (fun e=>hn e.symm),hd,Eh h]
theorem cpt_dup {l:List α} {i:Nat} (h1:1≤i) (h:i<l.length) (hd:Gh (l.take i)=l.take i) (hn:l[i]=l[i-1]'oM):Gh (l.take (i+1))=l.take i:=by
  rw [Td h1 h,if_pos hn.symm,hd]
structure Tf (l xs:List α) (i k:Nat):Prop where
  len:xs.length=l.length
  kk:k=(Gh (l.take i)).length
  pre:xs.take k=Gh (l.take i)
  same:∀ t,i-1≤t→xs[t]?=l[t]?
  lt:k<i
theorem Tf.start {l:List α} {i:Nat} (h1:1≤i) (h:i<l.length) (hd:Gh (l.take i)=l.take i) (hn:l[i]=l[i-1]'oM):Tf l l (i+1) i:=by
  have e:=cpt_dup h1 h hd hn
  exact ⟨rfl,by rw [e,List.length_take];omega,by rw [e],fun _ _=>rfl,by omega⟩
theorem Tf.skip {l xs:List α} {i k:Nat} (c:Tf l xs i k) (h1:1≤i) (h:i<l.length) (hn:l[i]=l[i-1]'oM):Tf l xs (i+1) k:=by
  have e:Gh (l.take (i+1))=Gh (l.take i):=by rw [Td h1 h,if_pos hn.symm]
  exact ⟨c.len,by rw [e];exact c.kk,by rw [e];exact c.pre,fun t ht=>c.same t oM,by have:=c.lt;omega⟩
theorem Tf.put {l xs:List α} {i k:Nat} (c:Tf l xs i k) (h1:1≤i) (h:i<l.length) (hn:¬ l[i]=l[i-1]'oM):Tf l (xs.set k l[i]) (i+1) (k+1):=by
  have e:Gh (l.take (i+1))=Gh (l.take i)++[l[i]]:=by rw [Td h1 h,if_neg (fun e=>hn e.symm)]
  have hlt:=c.lt
  have hlen:=c.len
  refine ⟨by rw [List.length_set];exact c.len,by rw [e,List.length_append,← c.kk];rfl,?_,fun t ht=>?_,by omega⟩
  · rw [e,← c.pre,Eh (by rw [List.length_set];omega),List.getElem_set_self,List.take_set_of_le (Nat.le_refl k)]
  · rw [List.getElem?_set,if_neg oM];exact c.same t oM
theorem Tf.at_ {l xs:List α} {i k:Nat} {f:α→Value} (c:Tf l xs i k) {t:Nat} (h:i-1≤t) (ht:t<l.length):(xs.map f)[t]?=some (f l[t]):=by
  rw [List.getElem?_map,c.same t h,List.getElem?_eq_getElem ht];rfl
theorem Tf.fin {l xs:List α} {i k:Nat} (c:Tf l xs i k) (h:i=l.length):xs.take k=Gh l∧k=(Gh l).length:=by
  have h1:=c.pre
  have h2:=c.kk
  rw [h,List.take_length] at h1 h2
  exact ⟨h1,h2⟩
end
theorem cmpi_ok {G:Ghost} {bq cq n:Nat} {l:List Int} (hl:l.length=n) (hn:n≤12) (hc:n≤cq) :
  Ai prog 63 [Vs bq n cq] G [.row 3 1 (Vs bq n cq) n (l.map (.int .i64))] fun r _ H'=>∃ k,k=(Gh l).length∧r=Vs bq k cq∧H'=[.row 3 1 (Vs bq k cq) k ((Gh l).map (.int .i64))]:=by
 refine Ai.of_T [(0,_)] func63 rfl ntmps63 sM rfl fun w0 hs =>Wt 9 [0] hs rfl<|Zy hs (Yc rfl (fun h8=>?_) fun h8=>?_)
 ·
  refine Wp 7 [0,0] hs rfl<|Ah<|Zz results63 rfl ?_
  exact ⟨_,_,hs,n,by rw [Ur oM,hl],rfl,by rw [Ur oM]⟩
 refine Wp 8 [0,0] hs rfl<|Zl [0,3] (fun m E w=>∃ (i:Nat) (G2:Ghost),1≤i∧i≤n∧Gh (l.take i)=l.take i∧m=n-i∧E=⟨[],[(0,(Vs bq n cq)),(3,Vi (i:Int))]⟩∧St ⟨w0,G,Bl [.row 3 1 (Vs bq n cq) n (l.map (.int .i64))]⟩ G2 [.row 3 1 (Vs bq n cq) n (l.map (.int .i64))] w) rfl (⟨1,_,by omega,by omega,tG,rfl,rfl,hs⟩) fun m E w hI=>?_
 obtain ⟨i,G2,hi1,hi2,hcp,rfl,rfl,hs⟩:=hI
 refine Wt 6 [] hs rfl<|Zy hs (Yc rfl (fun h13=>?_) fun h13=>?_)
 ·
  refine Wp 6 [0] hs rfl<|Bc [0,1,2,3,4,5,6,7,8,9] hs kR ?_
  replace hs:=hs.drew
  refine Xr [0,1] [] hs rfl<|Xt 2 hs rfl (Bj (i) underlying33 sizeOf3 rfl rfl rfl oM<|Xt 3 hs rfl (Dg 0 rfl isAgg3 rfl (by rw [List.getElem?_map,List.getElem?_eq_getElem oM];rfl) ?_))
  refine Xr [4,5] [] hs rfl<|Xt 6 hs rfl (Fc (c:=((i-1:Nat):Int)) rfl rfl oM oM<|Xt 7 hs rfl (Bj (i-1) underlying33 sizeOf3 rfl rfl rfl oM<|Xt 8 hs rfl (Dg 0 rfl isAgg3 rfl (by rw [List.getElem?_map,List.getElem?_eq_getElem oM];rfl) ?_)))
  refine Xt 9 hs rfl (Nr rfl rfl rfl (fun h25=>?_) (fun h25=>?_))
  ·
   dsimp only [Il] at h25
   refine Xe (Zk [0,3,25] rfl<|Wu 5 [] hs rfl<|Zy hs (Ru (off:=i) i underlying33 sizeOf3 rfl rfl rfl oM hc oM<|Wp 7 [0,0] hs rfl<|Zl [0,3,4,5] (fun m E w=>∃ (j k:Nat) (xs:List Int) (G2:Ghost),1≤j∧i+j≤n∧Tf l xs (i+j) k∧m=n-j∧E=⟨[],[(0,(Vs bq n cq)),(3,Vi (k:Int)),(4,.slice (some ⟨bq,i,none⟩) (n-i) (cq-i)),(5,Vi (j:Int))]⟩∧St ⟨w0,G,Bl [.row 3 1 (Vs bq n cq) n (l.map (.int .i64))]⟩ G2 [.row 3 1 (Vs bq n cq) n (xs.map (.int .i64))] w) rfl (⟨1,i,l,_,by omega,by omega,Tf.start hi1 oM hcp h25,rfl,rfl,hs⟩) fun m E w hI=>?_))
   obtain ⟨j,k,xs,G2,hj1,hj2,hcm,rfl,rfl,hs⟩:=hI
   have hkl:=hcm.lt
   refine Wt 6 [] hs rfl<|Zy hs (Yc rfl (fun h32=>?_) fun h32=>?_)
   ·
    refine Wp 6 [0] hs rfl<|Bc [0,1,2,3,4,5,6,7,8,9] hs kR ?_
    replace hs:=hs.drew
    refine Xr [0,1] [] hs rfl<|Xt 2 hs rfl (Qm (r:=i+j) i (j) underlying33 sizeOf3 rfl rfl rfl oM oM oM<|Xt 3 hs rfl (Dg 0 rfl isAgg3 rfl (hcm.at_ oM oM)<|Xr [4,5] [] hs rfl<|Xt 6 hs rfl (Fc (c:=((j-1:Nat):Int)) rfl rfl oM oM<|Xt 7 hs rfl (Qm (r:=i+j-1) i (j-1) underlying33 sizeOf3 rfl rfl rfl oM oM oM<|Xt 8 hs rfl (Dg 0 rfl isAgg3 rfl (hcm.at_ oM oM)<|Xt 9 hs rfl (Nr rfl rfl rfl (fun h44=>?_) (fun h44=>?_)))))))
    ·
     dsimp only [Il] at h44
     refine Xe (Zk [0,3,4,5,44] rfl<|Wu 7 [] hs rfl<|Zy hs (Qm (r:=i+j) i (j) underlying33 sizeOf3 rfl rfl rfl oM oM oM<|Zy hs (Dg 0 rfl isAgg3 rfl (hcm.at_ oM oM)<|Zy hs (Bj (k) underlying33 sizeOf3 rfl rfl rfl oM<|O_n (Ct hs sizeOf3 rfl rfl rfl oM fun _ hs =>Wp 3 [0] hs rfl<|Zy hs (Ya (s:=((k+1:Nat):Int)) rfl<|Wp 4 [0] hs rfl<|Zy hs (Ya (s:=((j+1:Nat):Int)) rfl<|Wp 1 [] hs rfl<|Zx [0,3,4,5] rfl ⟨j+1,k+1,xs.set k (l[i+j]'oM),_,by omega,by omega,hcm.put oM oM h44,rfl,rfl,by rw [List.map_set];exact hs⟩)))))))
    dsimp only [Il] at h44
    refine Xe (Zk [0,3,4,5,44] rfl<|Wu 4 [] hs rfl<|Zy hs (Ya (s:=((j+1:Nat):Int)) rfl<|Wp 1 [] hs rfl<|Zx [0,3,4,5] rfl ⟨j+1,k,xs,_,by omega,by omega,hcm.skip oM oM (by simpa using h44),rfl,rfl,hs⟩))
   refine Wp 3 [0] hs rfl<|Wu 4 [] hs rfl<|Zy hs (Ru (off:=k) k underlying33 sizeOf3 rfl rfl rfl oM hc oM<|O_n (iH (m:=k) hs underlying33 zeroValue3 rfl dC rfl rfl oM oM fun _ hs =>Wp 5 [0] hs rfl<|Zy hs (iG k underlying33 sizeOf3 rfl rfl rfl oM hc oM<|Wp 2 [0] hs rfl<|Ah<|Zz results63 rfl ?_)))
   have hfi:=hcm.fin oM
   exact ⟨_,_,hs,k,hfi.2,rfl,by rw [← hfi.1];simp [List.map_take]⟩
  dsimp only [Il] at h25
  refine Xe (Zk [0,3,25] rfl<|Wu 4 [] hs rfl<|Zy hs (Ya (s:=((i+1:Nat):Int)) rfl<|Wp 1 [] hs rfl<|Zx [0,3] rfl ⟨i+1,_,by omega,by omega,cpt_new hi1 oM hcp h25,rfl,rfl,hs⟩))
 refine Wp 3 [0] hs rfl<|Wu 5 [0] hs rfl<|Ah<|Zz results63 rfl ?_
 obtain rfl:i=n:=by omega
 rw [← hl,List.take_length] at hcp
 exact ⟨_,_,hs,i,by rw [hcp,hl],rfl,by rw [hcp]⟩
theorem cmpn_ok {G:Ghost} :
  Ai prog 63 [Vn] G [.row 3 1 (Vn) 0 []] fun r _ H'=>r=Vn∧H'=[.row 3 1 (Vn) 0 []]:=by
 refine Ai.of_T [(0,_)] func63 rfl ntmps63 sM rfl fun w0 hs =>Wt 17 [0,0,0] hs rfl<|Ah<|Zz results63 rfl ?_
 exact ⟨_,_,hs,rfl,rfl⟩
def cG (a b:Int):Int:=if a<b then -1 else if b<a then 1 else 0
def cmpQ (a b:Int×Int):Int:=if cG a.1 b.1=0 then cG a.2 b.2 else cG a.1 b.1
def mU (a b:Int×Int):Bool:=decide (cmpQ a b<0)
theorem Ph {a b:Int×Int}:mU a b=true↔a.1<b.1∨(a.1=b.1∧a.2<b.2):=by
  unfold mU cmpQ cG
  rw [decide_eq_true_iff]
  split<;>(repeat' split)<;>omega
theorem aV {a b:Int×Int}:mU a b=false↔¬ (a.1<b.1∨(a.1=b.1∧a.2<b.2)):=by rw [← Ph,Bool.not_eq_true]
def prC (e:Int×Int):List Value:=[Vi e.1,Vi e.2]
def kV (l:List (Int×Int)):List Value:=l.flatMap prC
theorem fH (a b:List (Int×Int)):kV (a++b)=kV a++kV b:=List.flatMap_append
section
variable {x:Cx} {W:World→Prop} {E:Env} {K:Value→Prop} {d:Option Tmp} {ty:TypeId} {pos:String} {aft:Array Edge} {g:Option (Nat×Bool)} {o:Operand}
end
theorem aW {c:Ctx} {G:Ghost} {H:List Res} {w:World} {e k n:Nat} {v:Value} {xs:List Value} (hs:St c G (.row e k v n xs::H) w):(v=Vn∧n=0∧xs=[])∨∃ b cap,v=Vs b n cap∧n≤cap:=by
  have hr:w.ownsRow 0 e k v n xs:=hs.hold (.row e k v n xs) sM
  rcases hr.2 with ⟨h1,h0⟩ | ⟨b,cap,cur,h1,_,_,h2,_⟩
  · exact .inl ⟨h1,h0,List.eq_nil_of_length_eq_zero (by rw [hr.1,h0,Nat.zero_mul])⟩
  · exact .inr ⟨b,cap,h1,h2⟩
theorem jP {G:Ghost} {a b:Int} :
  Ai prog 44 [Vi a,Vi b] G [] fun r _ H'=>H'=[]∧r=Vi (cG a b):=by
 refine Ai.of_T [(0,_),(1,_)] func44 rfl ntmps44 sM rfl fun w0 hs =>Wt 7 [0] hs rfl<|O_s (Sc (fG) hs rfl fun v1 G' H' _ hR hG8 hs=>?_)
 obtain ⟨rfl,rfl⟩:=hR
 replace hs:=hs.n rfl
 refine Wp 5 [0] hs rfl<|O_s (Sc (fG) hs rfl fun v2 G' H' _ hR hG10 hs=>?_)
 obtain ⟨rfl,rfl⟩:=hR
 replace hs:=hs.n rfl
 refine Wp 21 [0,0,0] hs rfl<|Zy hs (Yc rfl (fun h16=>?_) fun h16=>?_)
 ·
  refine Wp 6 [0,0] hs rfl<|Ah<|Zz results44 rfl ?_
  exact ⟨_,[],hs.done,rfl,congrArg (Value.int .i64) (by unfold cG;rw [if_pos oM])⟩
 refine Wp 8 [0] hs rfl<|Zy hs (Yc rfl (fun h19=>?_) fun h19=>?_)
 ·
  refine Wp 6 [0,0] hs rfl<|Ah<|Zz results44 rfl ?_
  exact ⟨_,[],hs.done,rfl,congrArg (Value.int .i64) (by unfold cG;rw [if_neg oM,if_pos oM])⟩
 refine Wp 7 [0,0] hs rfl<|Ah<|Zz results44 rfl ?_
 exact ⟨_,[],hs.done,rfl,congrArg (Value.int .i64) (by unfold cG;rw [if_neg oM,if_neg oM])⟩
theorem pR {G:Ghost} {v:Value} {l:List Int} (hn:l.length≤12):Ai prog 62 [v] G [.row 3 1 v l.length (l.map (.int .i64))] fun _ _ H'=>∃ l',l'.Perm l∧Srt Wr l'∧H'=[.row 3 1 v l'.length (l'.map (.int .i64))]:=by
  intro w hs
  rcases aW hs with ⟨rfl,h0,hx⟩ | ⟨b,cap,rfl,_⟩
  · obtain rfl:=List.eq_nil_of_length_eq_zero h0
    exact (srtn_ok.mono fun r G' H' _ h=>⟨[],List.Perm.refl _,List.Pairwise.nil,h⟩) w hs
  · exact ((srti_ok (bq:=b) (cq:=cap) rfl hn).mono fun r G' H' _ ⟨l',h1,h2,h3⟩=>⟨l',h1,h2,by rw [h1.length_eq];exact h3⟩) w hs
theorem cmpg_ok {G:Ghost} {v:Value} {l:List Int} (hn:l.length≤12):Ai prog 63 [v] G [.row 3 1 v l.length (l.map (.int .i64))] fun r _ H'=>H'=[.row 3 1 r (Gh l).length ((Gh l).map (.int .i64))]:=by
  intro w hs
  rcases aW hs with ⟨rfl,h0,hx⟩ | ⟨b,cap,rfl,hc⟩
  · obtain rfl:=List.eq_nil_of_length_eq_zero h0
    exact (cmpn_ok.mono fun r G' H' _ ⟨h1,h2⟩=>by rw [h1];exact h2) w hs
  · exact ((cmpi_ok (bq:=b) (cq:=cap) rfl hn hc).mono fun r G' H' _ ⟨k,h1,h2,h3⟩=>by rw [h2,← h1];exact h3) w hs
def kW (r:List Int):List (Int×Int):=r.zip r.tail
def fI (f:Bw):List (Int×Int):=f.routes.flatMap kW
def Wa (f:Bw):List Int:=(fI f).map fun e=>(Da e f.edges:Int)
def Ik (f:Bw) (u:List Int):Prop:=u.Pairwise (fun a b=>a<b)∧∀ x,x∈u↔x∈Wa f
theorem fJ (r:List Int):(kW r).length=r.length-1:=by unfold kW;rw [List.length_zip,List.length_tail];omega
theorem lnk_get {r:List Int} {j:Nat} (h1:1≤j) (h:j<r.length):(kW r).drop (j-1)=(r[j-1]'oM,r[j])::(kW r).drop j:=by
  rw [List.drop_eq_getElem_cons (by rw [fJ];omega)]
  congr 1
  · unfold kW
    rw [List.getElem_zip,List.getElem_tail]
    congr 2;omega
  · congr 1;omega
theorem Vj {es:List (Int×Int)}:∀ (l pre:List Int),Ep es pre l=true→(∀ e∈kW l,e∈es)∧(∀ x l',l=x::l'→Sx es pre.getLast? x=true)
  | [],_,_=>⟨by simp [kW],by intro x l' h;cases h⟩
  | x::l,pre,h=>by
    rw [Ep] at h
    simp only [Bool.and_eq_true] at h
    obtain ⟨ih1,ih2⟩:=Vj l (pre++[x]) h.2.2
    refine ⟨?_,fun y l' e=>by injection e with e1 e2;subst e1;exact h.2.1⟩
    intro e he
    cases l with
    | nil=>simp [kW] at he
    | cons y l =>
      rw [show kW (x::y::l)=(x,y)::kW (y::l) from rfl] at he
      rcases List.mem_cons.1 he with rfl | he
      · have:=ih2 y l rfl
        rw [List.getLast?_concat] at this
        exact of_decide_eq_true (show decide ((x,y)∈es)=true from this)
      · exact ih1 e he
theorem jQ {f:Bw} (h:f.routes.all (Gg f.edges)=true) {k:Nat} (hk:k<f.routes.length):∀ e∈kW f.routes[k],e∈f.edges:=by
  have h1:=List.all_eq_true.1 h _ (List.getElem_mem hk)
  unfold Gg at h1
  simp only [Bool.and_eq_true] at h1
  exact (Vj _ _ h1.2).1
theorem ltI_tot:∀ a b:Int,Wr a b=false→Wr b a=false→a=b:=fun a b h1 h2=>by simp only [Wr,decide_eq_false_iff_not] at *;omega
theorem used_of {f:Bw} {l':List Int} (h1:l'.Perm (Wa f)) (h2:Srt Wr l'):Ik f (Gh l') :=
  ⟨(Vg ltI_tot ordI _ _ rfl h2).imp fun h=>of_decide_eq_true h,fun x=>by rw [Ys];exact h1.mem_iff⟩
section
variable {x:Cx} {E:Env} {d:Option Tmp} {ty:TypeId} {pos:String} {aft:Array Edge} {g:Option (Nat×Bool)} {c:Ctx} {G:Ghost} {H:List Res}
theorem mV {α:Type} [DecidableEq α] {enc:α→Value} {K:Value→Prop} {t kt et:TypeId} {m kx:Operand} {b clk:Nat} {ks:List α} {a:α} {z:Value} (i:Nat) (hi:H[i]?=some (.obj b (.map (Ff enc ks).toArray clk))) (hu:x.P.underlying t=some (.map kt et)) (hk:Ie x.P kt enc) (hz:∀ w,(zeroValue et).run x.P w=.ok z w) (hnd:ks.Nodup)
    (h1:ev E m=some (.map (some b))) (h2:ev E kx=some (enc a)) (ha:a∈ks) (kk:K (Vi (Da a ks:Int))):Y x (St c G H) ⟨d,.lookup t m kx false,ty,pos,aft,g⟩ E K:=by
  rcases hk.has a ks hnd with ⟨h3,h4⟩ | ⟨h3,j,h4⟩
  · exact absurd (Fy.2 ha) h3
  · refine De (v:=Vi (Da a ks:Int)) (fun a' ha w hw=>?_) kk
    have hb:w.heap[b]?=some (.map (Ff enc ks).toArray clk):=hw.hold _ (List.mem_of_getElem? hi)
    simp only [execOp,ha.ev h1,ha.ev h2]
    simp [Instr.lookup,run_underlying hu,MapKept.run_getObj_map hb,hk.check,h4,Result.andThen]
end
theorem pS {G:Ghost} {Ap An Ae Ar:Option Addr} {cp cn ce cr:Nat} {f:Bw} (hf:Hb G Ap An Ae Ar cp cn ce cr f) (hz:tY f) (hP:∀ p∈f.progs,OkP p) (hT:Tab G) :
  Ai prog 60 [(.agg (fF Ap An Ae Ar cp cn ce cr f).toArray)] G [] fun r _ H'=>H'=[]∧r=Vi (Dh f):=by
 show Ai _ _ [.agg #[.slice Ap f.progs.length cp,.slice An f.nodes.length cn,.slice Ae f.edges.length ce,.slice Ar f.routes.length cr]] _ _ _
 refine Ai.of_T [(0,_)] func60 rfl ntmps60 sM rfl fun w0 hs=>?_
 have hf0:=hf
 have hT0:=hT
 refine Wt 2 [] hs rfl<|O_s (Sb hs rfl fun b1 _ hs=>Wp 5 [0,0] hs rfl ?_)
 cases hd7:decide (Dh f=0)
 ·
  refine O_s (Sc (fchk_F hf hz hP hT (of_decide_eq_false hd7)) hs rfl fun v1 G' H' _ hR hG7 hs=>?_)
  obtain ⟨rfl,rfl⟩:=hR
  replace hs:=hs.n rfl
  refine Wp 11 [0,0] hs rfl<|Ah<|Zz results60 rfl ?_
  exact ⟨_,[],hs.done,rfl,rfl⟩
 refine O_s (Sc (yX hf hz hP hT (of_decide_eq_true hd7)) hs rfl fun v2 G' H' _ hR hG7 hs=>?_)
 obtain ⟨bm,rfl,rfl⟩:=hR
 replace hs:=hs.n rfl
 refine Wp 11 [0,0] hs rfl<|Ah<|Zz results60 rfl ?_
 exact ⟨_,[],hs.done,rfl,by rw [of_decide_eq_true hd7]<;>rfl⟩
theorem fK {G:Ghost} {Ap An Ae Ar:Option Addr} {cp cn ce cr:Nat} {f:Bw} (hf:Hb G Ap An Ae Ar cp cn ce cr f) (hz:tY f) (hP:∀ p∈f.progs,OkP p) (hT:Tab G) (hC:Dh f=0) (h12:(fI f).length≤12) :
  Ai prog 40 [(.agg (fF Ap An Ae Ar cp cn ce cr f).toArray)] G [] fun r G' H'=>H'=[]∧∃ v u,r=.tuple #[v,Vi 0]∧Ik f u∧Bt G' v u∧u.length≤12:=by
 obtain ⟨hc0,hc1,hcn,hce,hcr⟩:=On hC
 have h12u:(Wa f).length≤12:=by unfold Wa;rw [List.length_map];exact h12
 show Ai _ _ [.agg #[.slice Ap f.progs.length cp,.slice An f.nodes.length cn,.slice Ae f.edges.length ce,.slice Ar f.routes.length cr]] _ _ _
 refine Ai.of_T [(0,_)] func40 rfl ntmps40 sM rfl fun w0 hs=>?_
 have hf0:=hf
 have hT0:=hT
 refine Wt 2 [] hs rfl<|O_s (Sb hs rfl fun b1 _ hs=>Wp 6 [0,0] hs rfl<|O_s (Sc (yX hf hz hP hT hC) hs rfl fun v1 G' H' _ hR hG12 hs=>?_))
 obtain ⟨bm,rfl,rfl⟩:=hR
 replace hs:=hs.n rfl
 replace hf:=hf.mono hG12
 replace hT:=hT.mono hG12
 refine Wp 26 [0,0,0,3,1,0] hs rfl ?_
 have hs:=hs.nilRow 3 1
 have hs:=hs.f2.f2.f2
 refine Zl [4,6,19,20,21] (fun m E w=>∃ (k:Nat) (us:List Int) (v6:Value) (G2:Ghost),k≤f.routes.length∧Wa f=us++((f.routes.drop k).flatMap kW).map (fun e=>(Da e f.edges:Int))∧m=f.routes.length-k∧E=⟨[],[(4,.map (some bm)),(6,v6),(19,.slice Ar f.routes.length cr),(20,Vi ((f.routes.length:Nat):Int)),(21,Vi (k:Int))]⟩∧St ⟨w0,G,Bl []⟩ G2 [.row 3 1 v6 us.length (us.map (.int .i64)),.obj bm (.map (Ff eK f.edges).toArray f.edges.length),.blk b1 43 [.slice Ap f.progs.length cp,.slice An f.nodes.length cn,.slice Ae f.edges.length ce,.slice Ar f.routes.length cr]] w) rfl (⟨0,[],_,_,by omega,by unfold Wa fI;simp,rfl,rfl,hs⟩) fun m E w hI=>?_
 obtain ⟨k,us,v6,G2,hk,hus,rfl,rfl,hs⟩:=hI
 have hf:=hf0.mono hs.le
 have hT:=hT0.mono hs.le
 refine Wt 2 [] hs rfl<|Zy hs (Yc rfl (fun h22=>?_) fun h22=>?_)
 ·
  refine Wp 8 [0] hs rfl<|Zy hs (Bv hf.r k underlying41 sizeOf33 rfl rfl rfl oM fun p23 c23 hp23 hc23 hR23=>?_)
  obtain ⟨u23,rfl,hv23⟩:=hR23
  obtain ⟨Ar8,cr8,rfl,_⟩:=id hv23
  have hrl:=hz.r _ (List.getElem_mem (show k<f.routes.length by omega))
  refine Zy hs (Yg rfl (hp23 0 (.slice Ar8 f.routes[k].length cr8) rfl)<|Wp 6 [0,0] hs rfl ?_)
  have hs:=hs.f2.f2.f2
  refine Zl [4,6,8,9,19,20,21] (fun m E w=>∃ (j:Nat) (us:List Int) (v6:Value) (G2:Ghost),1≤j∧j≤f.routes[k].length+1∧Wa f=us++((kW f.routes[k]).drop (j-1)++(f.routes.drop (k+1)).flatMap kW).map (fun e=>(Da e f.edges:Int))∧Bt G2 (.slice Ar8 f.routes[k].length cr8) f.routes[k]∧m=f.routes[k].length-j∧E=⟨[],[(4,.map (some bm)),(6,v6),(8,.slice Ar8 f.routes[k].length cr8),(9,Vi (j:Int)),(19,.slice Ar f.routes.length cr),(20,Vi ((f.routes.length:Nat):Int)),(21,Vi (k:Int))]⟩∧St ⟨w0,G,Bl []⟩ G2 [.row 3 1 v6 us.length (us.map (.int .i64)),.obj bm (.map (Ff eK f.edges).toArray f.edges.length),.blk b1 43 [.slice Ap f.progs.length cp,.slice An f.nodes.length cn,.slice Ae f.edges.length ce,.slice Ar f.routes.length cr]] w) rfl (⟨1,us,_,_,by omega,by omega,by rw [hus,List.drop_eq_getElem_cons oM];rfl,hv23,rfl,rfl,hs⟩) fun m E w hI=>?_
  obtain ⟨j,us,v6,G2,hj1,hj2,hus,hv23,rfl,rfl,hs⟩:=hI
  have hf:=hf0.mono hs.le
  have hT:=hT0.mono hs.le
  refine Wt 6 [] hs rfl<|Zy hs (Yc rfl (fun h28=>?_) fun h28=>?_)
  ·
   refine Wp 3 [0] hs rfl ?_
   have hlk:=lnk_get (r:=f.routes[k]'oM) hj1 oM
   have hin:((f.routes[k]'oM)[j-1]'oM,(f.routes[k]'oM)[j]'oM)∈f.edges:=jQ hcr (k:=k) oM _ (List.mem_of_mem_drop (i:=j-1) (by rw [hlk];exact List.mem_cons_self))
   have husl:us.length+1≤12:=by have h:=congrArg List.length hus;rw [hlk] at h;simp at h;omega
   refine Wu 2 [] hs rfl<|Bc [0,1,2,3,4,5,6,7,8,9,10,11,12,13] hs kR ?_
   replace hs:=hs.drew
   refine Xr [0,1,2,3] [] hs rfl<|Xt 4 hs rfl (Fc (c:=((j-1:Nat):Int)) rfl rfl oM oM<|Xt 5 hs rfl (Dl hv23 (j-1) underlying33 sizeOf3 rfl rfl rfl oM fun p36 hp36 =>Xt 6 hs rfl (Yg rfl (hp36)<|Xr [7,8] [] hs rfl<|Xt 9 hs rfl (Dl hv23 j underlying33 sizeOf3 rfl rfl rfl oM fun p40 hp40 =>Xt 10 hs rfl (Yg rfl (hp40)<|Xt 11 hs rfl (Co underlying70 sizeOf3 zeroValue70 rfl rfl (cs:=[_,_]) rfl<|Xt 12 hs rfl (mV (a:=((f.routes[k][j-1]'oM),(f.routes[k][j]'oM))) 1 rfl underlying113 keyE zeroValue3 (Ta hce) rfl rfl hin ?_)))))))
   have hle:=hs.le
   refine Xo 13 rfl (Ca hs underlying33 sizeOf3 zeroValue3 rfl rfl dC dC rfl (cs:=[_]) rfl rfl fun v2 _ hs _=>?_)
   obtain ⟨_,hG44,hl44,hs⟩:=hs.fixRow noM
   replace hv23:=hv23.mono hG44
   refine Am hs hle hG44 (lSr _)<|Xa 14 rfl (Bf hs underlying33 Lb rfl dC rfl rfl (hl44) (Fj rfl) oM Nj fun v3 _ hs =>Xa 15 rfl (S_y hs rfl (Yq rfl<|Xe (Zk [4,6,8,9,19,20,21] rfl<|Wu 2 [] hs rfl<|Zy hs (Ya (s:=((j+1:Nat):Int)) rfl<|Wp 1 [] hs rfl ?_)))))
   have hs:=hs.f2.f2.f2
   refine Zx [4,6,8,9,19,20,21] rfl ⟨j+1,us++[(Da ((f.routes[k]'oM)[j-1]'oM,(f.routes[k]'oM)[j]'oM) f.edges:Int)],_,_,by omega,by omega,by rw [hus,hlk];simp,hv23,rfl,rfl,Bz hs sM⟩
  refine Wp 3 [0] hs rfl ?_
  refine Zr<|Zy hs (Ya (s:=((k+1:Nat):Int)) rfl<|Wp 1 [] hs rfl ?_)
  have hs:=hs.f2.f2.f2
  refine Zx [4,6,19,20,21] rfl ⟨k+1,us,_,_,by omega,by rw [hus,List.drop_eq_nil_of_le (by rw [fJ];omega),List.nil_append],rfl,rfl,hs⟩
 refine Wp 4 [0] hs rfl ?_
 obtain rfl:k=f.routes.length:=by omega
 rw [List.drop_length] at hus
 simp only [List.flatMap_nil,List.map_nil,List.append_nil] at hus
 refine Wu 3 [] hs rfl<|O_s (Sc (pR (by rw [← hus];exact h12u)) hs rfl fun v4 G' H' _ hR hG48 hs=>?_)
 obtain ⟨l',hpm,hsl,rfl⟩:=hR
 replace hs:=hs.n rfl
 refine Wp 4 [0] hs rfl<|O_s (Sc (cmpg_ok (by rw [hpm.length_eq,← hus];exact h12u)) hs rfl fun v5 G' H' _ hR hG50 hs=>?_)
 obtain rfl:=hR
 replace hs:=hs.n rfl
 refine Wp 3 [0] hs rfl<|Ah ?_
 obtain ⟨_,hG_hfu,hfu,hs⟩:=hs.fixRow noM
 refine Bi (vs:=[_,_]) results40 rfl ⟨rfl,rfl,trivial⟩ ?_
 try dsimp only [tup]
 exact ⟨_,[],hs.done,rfl,_,Gh l',rfl,used_of (by rw [hus];exact hpm) hsl,hfu,Nat.le_trans (uU l').length_le (by rw [hpm.length_eq,← hus];exact h12u)⟩
theorem dX {n:Int}:∀ (l s:List (Int×Int)),Hn n s l=true→∀ e∈l,(0≤e.1∧e.1<n)∧(0≤e.2∧e.2<n)∧¬ e.1=e.2
  | [],_,_,_,h=>by cases h
  | a::l,s,h,e,he=>by
    rw [Hn] at h
    simp only [Bool.and_eq_true,Bool.not_eq_true',decide_eq_false_iff_not] at h
    rcases List.mem_cons.1 he with rfl | he
    · exact ⟨Hz.1 h.2.1,Hz.1 h.2.2.1,h.2.2.2.1⟩
    · exact dX l _ h.2.2.2.2 e he
theorem zB {n:Int} {l:List (Int×Int)} (h:Gk n l=true) {e:Int×Int} (he:e∈l):(0≤e.1∧e.1<n)∧(0≤e.2∧e.2<n)∧¬ e.1=e.2:=dX l [] h e he
theorem rawL_in {f:Bw} (h:f.routes.all (Gg f.edges)=true) {e:Int×Int} (he:e∈fI f):e∈f.edges:=by
  obtain ⟨r,hr,he⟩:=List.mem_flatMap.1 he
  obtain ⟨k,hk,rfl⟩:=List.getElem_of_mem hr
  exact jQ h hk e he
theorem used_at {f:Bw} {u:List Int} (hu:Ik f u) (h:f.routes.all (Gg f.edges)=true) {x:Int} (hx:x∈u):∃ i:Nat,∃ hi:i<f.edges.length,x=(i:Int)∧f.edges[i]∈fI f:=by
  obtain ⟨e,he,rfl⟩:=List.mem_map.1 ((hu.2 x).1 hx)
  have h1:=Fy.2 (rawL_in h he)
  exact ⟨Da e f.edges,h1,rfl,by rw [Kd h1];exact he⟩
theorem prL_cs (q:List (Int×Int)):kV q=(q.map prC).flatten:=by unfold kV;rw [List.flatMap_def]
theorem fL {G:Ghost} {v:Value} {q:List (Int×Int)} (h:Sl G v 2 q.length (kV q)):kU G v q:=by
  refine ⟨q.map prC,by rw [← prL_cs];exact h,?_,by intro c hc;obtain ⟨e,_,rfl⟩:=List.mem_map.1 hc;rfl⟩
  clear h
  induction q with
  | nil=>trivial
  | cons a q ih=>exact ⟨rfl,ih⟩
theorem PL102:places prog 102=some [(0,1),(1,1)]:=by kernel_rfl
theorem Fu:places prog 137=some [(0,1),(1,1),(2,1),(3,1),(4,1),(5,1),(6,1),(7,1),(8,1),(9,3),(12,4),(16,5),(21,1),(22,1),(23,7),(30,1),(31,1),(32,1)]:=by kernel_rfl
theorem PL172:places prog 172=some [(0,1),(1,4),(5,1),(6,1),(7,1),(8,1)]:=by kernel_rfl
theorem jR:TI prog 137 (.agg #[Vi 0,Vi 0,Vi 0,Vi 0,Vi 0,Vi 0,Vi 0,Vn,Vf,Vi 0,Vn,Vn,.int .u64 0,.int .u64 0,.int .u64 0,.int .u64 0,Vi 0,Vi 0,Vi 0,Vi 0,Vf,Vn,Vn,Vi 0,Vf,Vi 0,Vi 0,Vi 0,Vi 0,Vn,.string ByteArray.empty,Vi 0,Vi 0]) 33 368:=TI.of kR
theorem Ws {G:Ghost} {c:List Nat} {x:UInt8} {z:Int} (hc:c.length=4) (hz:z=(x.toNat:Int)) :
  Ai prog 101 [Gm c,Vi z] G [] fun r _ H'=>H'=[]∧r=Gm (Ig c x):=by
 subst hz
 have hx:=x.toNat_lt
 have hcell:(c.map Af)[x.toNat / 64]?=some (Af (c.getD (x.toNat / 64) 0)):=by rw [List.getElem?_map,List.getElem?_eq_getElem oM,List.getD_eq_getElem?_getD,List.getElem?_eq_getElem oM];rfl
 have hal:(Ig c x).length=4:=by unfold Ig;rw [List.length_set];exact hc
 refine Ai.of_T [(0,_),(1,_)] func101 rfl ntmps101 sM rfl fun w0 hs =>Wt 2 [] hs rfl<|O_s (Dw hs rfl (cs:=(List.map Af c)) rfl fun b2 _ hs =>O_s (Bd hs zeroValue127 (cs:=(List.map Af [0,0,0,0])) rfl fun b4 _ hs =>Wp 2 [0] hs rfl<|Bc [0,1,2,3,4,5,6,7,8,9,10] hs kR ?_))
 replace hs:=hs.drew
 refine Xr [0] [] hs rfl<|Xt 1 hs rfl (No (c:=((x.toNat / 64:Nat):Int)) rfl rfl oM oM oM<|Xr [2] [] hs rfl<|Xt 3 hs rfl (No (c:=((x.toNat / 64:Nat):Int)) rfl rfl oM oM oM<|Xt 4 hs rfl (Bq (x.toNat / 64) underlying127 sizeOf125 rfl rfl rfl oM<|Xt 5 hs rfl (Db 1 isAgg125 rfl rfl hcell<|Xr [6] [] hs rfl<|Xt 7 hs rfl (Er (c:=((x.toNat % 64:Nat):Int)) rfl rfl oM oM oM<|Xt 8 hs rfl (eH (x.toNat % 64) oM rfl rfl<|Xt 9 hs rfl (Tw rfl rfl<|Xt 10 hs rfl (Bq (x.toNat / 64) underlying127 sizeOf125 rfl rfl rfl oM<|Xn 11 rfl (Hs hs.f1 sizeOf125 rfl rfl rfl kZ (cs':=(Ig c x).map Af) (by unfold Ig;rw [List.map_set]) fun _ hs =>Xe (Zk [2,4] rfl<|Wu 2 [] hs rfl<|Zy hs (Yk 0 rfl Kn<|O_n (Sw hs.f1 rfl (vs:=(List.map Af (Ig c x))) Kn Kn (Df _) fun _ hs=>Wp 1 [0] hs rfl<|Ah ?_))))))))))))
 have hr:=hs
 refine Bi (vs:=[_]) results101 rfl ⟨Bk 0 hr isAgg127 sizeOf127 rfl (cs:=(List.map Af (Ig c x))) rfl Kn,trivial⟩ ?_
 try dsimp only [tup]
 exact ⟨_,[],hs.done,rfl,rfl⟩
theorem jS {G:Ghost} :
  Ai prog 74 [Vi 1] G [] fun r _ H'=>H'=[]∧r=Gm rV:=by
 refine Ai.of_T [(0,_)] func74 rfl ntmps74 sM rfl fun w0 hs =>Wt 2 [] hs rfl<|O_s (Bd hs zeroValue127 (cs:=(List.map Af [0,0,0,0])) rfl fun b2 _ hs =>Wp 3 [0] hs rfl<|Zy hs (Co underlying127 sizeOf125 zeroValue127 rfl rfl (cs:=[_,_,_,_]) rfl<|O_s (Bd hs zeroValue127 (cs:=(List.map Af [0,0,0,0])) rfl fun b3 _ hs =>O_n (Sw hs rfl (vs:=(List.map Af [0,0,0,0])) rfl rfl (Df _) fun _ hs=>Wp 5 [0] hs rfl<|Zy hs (Er (c:=1) rfl rfl dC dC dC<|Wp 4 [0] hs rfl<|Zy hs (Yk 0 rfl rF<|O_s (Sc (Ws (x:=97) rfl rfl) hs rfl fun v1 G' H' _ hR hG9 hs=>?_)))))))
 obtain ⟨rfl,rfl⟩:=hR
 replace hs:=hs.n rfl
 refine O_n (Sw hs rfl (vs:=(List.map Af (Ig [0,0,0,0] 97))) rfl rfl (Df _) fun _ hs=>Wp 5 [0] hs rfl<|Zy hs (No (c:=0) rfl rfl dC dC dC<|Zy hs (Er (c:=0) rfl rfl dC dC dC<|Wp 6 [0] hs rfl<|Zy hs (Yk 0 rfl rF<|O_n (Sw hs.f1 rfl (vs:=(List.map Af (Ig [0,0,0,0] 97))) rfl rfl (Df _) fun _ hs=>Wp 1 [0] hs rfl<|Ah ?_)))))
 have hr:=hs
 refine Bi (vs:=[_]) results74 rfl ⟨Bk 0 hr isAgg127 sizeOf127 rfl (cs:=(List.map Af (Ig [0,0,0,0] 97))) rfl rfl,trivial⟩ ?_
 try dsimp only [tup]
 exact ⟨_,[],hs.done,rfl,rfl⟩
theorem aX {G:Ghost} :
  Ai prog 74 [Vi 2] G [] fun r _ H'=>H'=[]∧r=Gm clB:=by
 refine Ai.of_T [(0,_)] func74 rfl ntmps74 sM rfl fun w0 hs =>Wt 2 [] hs rfl<|O_s (Bd hs zeroValue127 (cs:=(List.map Af [0,0,0,0])) rfl fun b2 _ hs =>Wp 3 [0] hs rfl<|Zy hs (Co underlying127 sizeOf125 zeroValue127 rfl rfl (cs:=[_,_,_,_]) rfl<|O_s (Bd hs zeroValue127 (cs:=(List.map Af [0,0,0,0])) rfl fun b3 _ hs =>O_n (Sw hs rfl (vs:=(List.map Af [0,0,0,0])) rfl rfl (Df _) fun _ hs=>Wp 5 [0] hs rfl<|Zy hs (Er (c:=0) rfl rfl dC dC dC<|Wp 8 [0] hs rfl<|Zy hs (No (c:=1) rfl rfl dC dC dC<|Zy hs (Er (c:=1) rfl rfl dC dC dC<|Wp 4 [0] hs rfl<|Zy hs (Yk 0 rfl rF<|O_s (Sc (Ws (x:=98) rfl rfl) hs rfl fun v1 G' H' _ hR hG15 hs=>?_)))))))))
 obtain ⟨rfl,rfl⟩:=hR
 replace hs:=hs.n rfl
 refine O_n (Sw hs rfl (vs:=(List.map Af (Ig [0,0,0,0] 98))) rfl rfl (Df _) fun _ hs=>Wp 3 [0] hs rfl<|Zy hs (Yk 0 rfl rF<|O_n (Sw hs.f1 rfl (vs:=(List.map Af (Ig [0,0,0,0] 98))) rfl rfl (Df _) fun _ hs=>Wp 1 [0] hs rfl<|Ah ?_)))
 have hr:=hs
 refine Bi (vs:=[_]) results74 rfl ⟨Bk 0 hr isAgg127 sizeOf127 rfl (cs:=(List.map Af (Ig [0,0,0,0] 98))) rfl rfl,trivial⟩ ?_
 try dsimp only [tup]
 exact ⟨_,[],hs.done,rfl,rfl⟩
theorem zC {G:Ghost} :
  Ai prog 74 [Vi 3] G [] fun r _ H'=>H'=[]∧r=Gm Pr:=by
 refine Ai.of_T [(0,_)] func74 rfl ntmps74 sM rfl fun w0 hs =>Wt 2 [] hs rfl<|O_s (Bd hs zeroValue127 (cs:=(List.map Af [0,0,0,0])) rfl fun b2 _ hs =>Wp 3 [0] hs rfl<|Zy hs (Co underlying127 sizeOf125 zeroValue127 rfl rfl (cs:=[_,_,_,_]) rfl<|O_s (Bd hs zeroValue127 (cs:=(List.map Af [0,0,0,0])) rfl fun b3 _ hs =>O_n (Sw hs rfl (vs:=(List.map Af [0,0,0,0])) rfl rfl (Df _) fun _ hs=>Wp 5 [0] hs rfl<|Zy hs (Er (c:=1) rfl rfl dC dC dC<|Wp 4 [0] hs rfl<|Zy hs (Yk 0 rfl rF<|O_s (Sc (Ws (x:=97) rfl rfl) hs rfl fun v1 G' H' _ hR hG9 hs=>?_)))))))
 obtain ⟨rfl,rfl⟩:=hR
 replace hs:=hs.n rfl
 refine O_n (Sw hs rfl (vs:=(List.map Af (Ig [0,0,0,0] 97))) rfl rfl (Df _) fun _ hs=>Wp 5 [0] hs rfl<|Zy hs (No (c:=1) rfl rfl dC dC dC<|Zy hs (Er (c:=1) rfl rfl dC dC dC<|Wp 4 [0] hs rfl<|Zy hs (Yk 0 rfl rF<|O_s (Sc (Ws (x:=98) rfl rfl) hs rfl fun v2 G' H' _ hR hG15 hs=>?_)))))
 obtain ⟨rfl,rfl⟩:=hR
 replace hs:=hs.n rfl
 refine O_n (Sw hs rfl (vs:=(List.map Af (Ig (Ig [0,0,0,0] 97) 98))) rfl rfl (Df _) fun _ hs=>Wp 3 [0] hs rfl<|Zy hs (Yk 0 rfl rF<|O_n (Sw hs.f1 rfl (vs:=(List.map Af (Ig (Ig [0,0,0,0] 97) 98))) rfl rfl (Df _) fun _ hs=>Wp 1 [0] hs rfl<|Ah ?_)))
 have hr:=hs
 refine Bi (vs:=[_]) results74 rfl ⟨Bk 0 hr isAgg127 sizeOf127 rfl (cs:=(List.map Af (Ig (Ig [0,0,0,0] 97) 98))) rfl rfl,trivial⟩ ?_
 try dsimp only [tup]
 exact ⟨_,[],hs.done,rfl,rfl⟩
theorem zD {c:List Nat} (h:c.length=4):∃ a b d e,c=[a,b,d,e]∧Gm c=.agg #[Af a,Af b,Af d,Af e]:=by
  obtain ⟨a,b,d,e,rfl⟩:=Mj h
  exact ⟨a,b,d,e,rfl,rfl⟩
theorem noC_ok:Zu noC:=⟨rfl,by decide⟩
theorem clA_ok:Zu rV:=⟨by decide,by decide⟩
theorem fM:Zu clB:=⟨by decide,by decide⟩
theorem clAB_ok:Zu Pr:=⟨by decide,by decide⟩
theorem Pj {G:Ghost} {c:List Nat} (hc:Zu c) :
  Ai prog 80 [Gm c,Vi 0] G [] fun r G' H'=>H'=[]∧Rx G' r (Dy c):=by
 obtain ⟨c0,c1,c2,c3,rfl,hcv⟩:=zD hc.1
 rw [hcv]
 refine Ai.of_T [(0,_),(1,_)] func80 rfl ntmps80 sM rfl fun w0 hs =>Wt 2 [] hs rfl<|O_s (Sb hs rfl fun b2 _ hs=>Wp 5 [0,0] hs rfl<|Zy hs (Ba zeroValue172 rfl PL172 rfl (cs:=[_,_,_,_,_,_,_,_,_]) rfl<|Wp 1 [] hs rfl<|Zy hs (Ba zeroValue172 rfl PL172 rfl (cs:=[_,_,_,_,_,_,_,_,_]) rfl<|O_s (Se hs zeroValue172 rfl fun v1 _ hs _=>?_))))
 obtain ⟨_,hG9,hl9,hs⟩:=hs.fixRow noM
 refine Wp 2 [0] hs rfl<|Ah<|Zz results80 rfl ?_
 exact ⟨_,[],hs.done,rfl,Be.ofSl (cs:=[oJ ⟨3,[c0,c1,c2,c3],0,0,0,0⟩,oJ ⟨8,noC,0,0,0,-1⟩]) hl9 rfl rfl ⟨⟨rfl,hc⟩,⟨rfl,noC_ok⟩,trivial⟩ Z12⟩
theorem Tg {G:Ghost} :
  Ai prog 79 [] G [] fun r G' H'=>H'=[]∧Rx G' r (Dy Pr):=by
 refine Ai.of_T [] func79 rfl ntmps79 sM rfl fun w0 hs =>Wt 6 [0] hs rfl<|O_s (Sc (zC) hs rfl fun v1 G' H' _ hR hG1 hs=>?_)
 obtain ⟨rfl,rfl⟩:=hR
 replace hs:=hs.n rfl
 refine O_s (Sc (Pj clAB_ok) hs rfl fun v2 G' H' _ hR hG2 hs=>?_)
 obtain ⟨rfl,h2⟩:=hR
 replace hs:=hs.n rfl
 refine Wp 2 [0] hs rfl<|Ah<|Zz results79 rfl ?_
 exact ⟨_,[],hs.done,rfl,h2⟩
theorem fN {G:Ghost} :
  Ai prog 77 [Vi 0] G [] fun r G' H'=>H'=[]∧Rx G' r (Dy rV):=by
 refine Ai.of_T [(0,_)] func77 rfl ntmps77 sM rfl fun w0 hs =>Wt 8 [0] hs rfl<|Zy hs (Er (c:=0) rfl rfl dC dC dC<|Wp 10 [0,0] hs rfl<|O_s (Sc (jS) hs rfl fun v1 G' H' _ hR hG7 hs=>?_))
 obtain ⟨rfl,rfl⟩:=hR
 replace hs:=hs.n rfl
 refine O_s (Sc (Pj clA_ok) hs rfl fun v2 G' H' _ hR hG8 hs=>?_)
 obtain ⟨rfl,h8⟩:=hR
 replace hs:=hs.n rfl
 refine Wp 2 [0] hs rfl<|Ah<|Zz results77 rfl ?_
 exact ⟨_,[],hs.done,rfl,h8⟩
theorem rop2_ok {G:Ghost} :
  Ai prog 75 [Vi 2] G [] fun r G' H'=>H'=[]∧∃ A1 c1 A2 c2,r=.agg #[Vi 6,.slice A1 1 c1,.slice A2 1 c2]∧Cv G' (.slice A1 1 c1) [97]∧Cv G' (.slice A2 1 c2) [98]:=by
 refine Ai.of_T [(0,_)] func75 rfl ntmps75 sM rfl fun w0 hs =>Wt 2 [] hs rfl<|O_s (Sa hs zeroValue124 rfl fun b2 _ hs=>Wp 5 [0] hs rfl<|Zy hs (Er (c:=2) rfl rfl dC dC dC<|Wp 22 [0,0,0,0] hs rfl<|O_s (Se hs zeroValue5 rfl fun v1 _ hs _=>?_)))
 have hsN:=hs.fixRow noM
 clear hs
 obtain ⟨_,hG13,hl13,hs⟩:=hsN
 obtain ⟨A13,c13,rfl,_⟩:=id hl13
 refine O_s (Se hs zeroValue5 rfl fun v2 _ hs _=>?_)
 have hsN:=hs.fixRow noM
 clear hs
 obtain ⟨_,hG14,hl14,hs⟩:=hsN
 replace hl13:=hl13.mono hG14
 obtain ⟨A14,c14,rfl,_⟩:=id hl14
 refine Zy hs (Ba zeroValue124 rfl wZ rfl (cs:=[_,_,_]) rfl<|O_n (Sg hs rfl (rfl) fun _ hs=>Wp 1 [0] hs rfl<|Ah<|Zz results75 (Rb 0 hs rfl rF) ?_))
 exact ⟨_,[],hs.done,rfl,_,_,_,_,rfl,hl13,hl14⟩
theorem rop3_ok {G:Ghost} :
  Ai prog 75 [Vi 3] G [] fun r G' H'=>H'=[]∧∃ A1 c1,r=.agg #[Vi 5,.slice A1 1 c1,Vn]∧Cv G' (.slice A1 1 c1) [98]:=by
 refine Ai.of_T [(0,_)] func75 rfl ntmps75 sM rfl fun w0 hs =>Wt 2 [] hs rfl<|O_s (Sa hs zeroValue124 rfl fun b2 _ hs=>Wp 5 [0] hs rfl<|Zy hs (Er (c:=3) rfl rfl dC dC dC<|Wp 28 [0,0,0,0,0] hs rfl<|O_s (Se hs zeroValue5 rfl fun v1 _ hs _=>?_)))
 have hsN:=hs.fixRow noM
 clear hs
 obtain ⟨_,hG18,hl18,hs⟩:=hsN
 obtain ⟨A18,c18,rfl,_⟩:=id hl18
 refine Zy hs (Ba zeroValue124 rfl wZ rfl (cs:=[_,_,_]) rfl<|O_n (Sg hs rfl (rfl) fun _ hs=>Wp 1 [0] hs rfl<|Ah<|Zz results75 (Rb 0 hs rfl rF) ?_))
 exact ⟨_,[],hs.done,rfl,_,_,rfl,hl18⟩
theorem jT {G:Ghost} {x:Int} :
  Ai prog 102 [Vi 0,Vi x] G [] fun r _ H'=>H'=[]∧r=.agg #[Vi 13,Vi x,Vi 0,Vi 0,Vi 0,Vi 0,Vi 0,Vn,Vf,Vi 0,Vn,Vn,Af 0,Af 0,Af 0,Af 0,Vi 0,Vi 0,Vi 0,Vi 0,Vf,Vn,Vn,Vi 0,Vf,Vi 0,Vi 0,Vi 0,Vi 0,Vn,.string ⟨#[120]⟩,Vi (-1),Vi (-1)]:=by
 refine Ai.of_T [(0,_),(1,_)] func102 rfl ntmps102 sM rfl fun w0 hs =>Wt 2 [] hs rfl<|O_s (Sa hs zeroValue137 rfl fun b4 _ hs=>Wp 3 [0] hs rfl<|O_s (Se hs zeroValue9 rfl fun v1 _ hs _=>?_))
 obtain ⟨_,hG5,hl5,hs⟩:=hs.fixRow noM
 refine Wp 1 [] hs rfl<|Zy hs (Er (c:=0) rfl rfl dC dC dC<|Zy hs (Jc 0 underlying150 sizeOf9 hl5 rfl rfl rfl rfl fun p8 hp8 =>Zy hs (Yg rfl (hp8)<|Wp 1 [] hs rfl<|Zy hs (Ba zeroValue137 rfl Fu rfl (cs:=[_,_,_,_,_,_,_,_,_,_,_,_,_,_,_,_,_,_,_,_,_,_,_,_,_,_,_,_,_,_,_,_,_]) rfl<|O_n (Sg hs rfl (rfl) fun _ hs=>Wp 1 [0] hs rfl<|Ah<|Zz results102 (Rb 0 hs rfl rF) ?_)))))
 exact ⟨_,[],hs.done,rfl,rfl⟩
theorem zF {G:Ghost} {x:Int} :
  Ai prog 102 [Vi 1,Vi x] G [] fun r _ H'=>H'=[]∧r=.agg #[Vi 13,Vi x,Vi 0,Vi 0,Vi 0,Vi 0,Vi 0,Vn,Vf,Vi 0,Vn,Vn,Af 0,Af 0,Af 0,Af 0,Vi 0,Vi 0,Vi 0,Vi 0,Vf,Vn,Vn,Vi 0,Vf,Vi 0,Vi 0,Vi 0,Vi 0,Vn,.string ⟨#[121]⟩,Vi (-1),Vi (-1)]:=by
 refine Ai.of_T [(0,_),(1,_)] func102 rfl ntmps102 sM rfl fun w0 hs =>Wt 2 [] hs rfl<|O_s (Sa hs zeroValue137 rfl fun b4 _ hs=>Wp 3 [0] hs rfl<|O_s (Se hs zeroValue9 rfl fun v1 _ hs _=>?_))
 obtain ⟨_,hG5,hl5,hs⟩:=hs.fixRow noM
 refine Wp 1 [] hs rfl<|Zy hs (Er (c:=1) rfl rfl dC dC dC<|Zy hs (Jc 1 underlying150 sizeOf9 hl5 rfl rfl rfl rfl fun p8 hp8 =>Zy hs (Yg rfl (hp8)<|Wp 1 [] hs rfl<|Zy hs (Ba zeroValue137 rfl Fu rfl (cs:=[_,_,_,_,_,_,_,_,_,_,_,_,_,_,_,_,_,_,_,_,_,_,_,_,_,_,_,_,_,_,_,_,_]) rfl<|O_n (Sg hs rfl (rfl) fun _ hs=>Wp 1 [0] hs rfl<|Ah<|Zz results102 (Rb 0 hs rfl rF) ?_)))))
 exact ⟨_,[],hs.done,rfl,rfl⟩
theorem rrej_ok {G:Ghost} :
  Ai prog 100 [Vi 0] G [] fun r _ H'=>H'=[]∧r=.agg #[Vi 14,Vi 0,Vi 0,Vi 0,Vi 0,Vi 1,Vi 0,Vn,Vf,Vi 0,Vn,Vn,Af 0,Af 0,Af 0,Af 0,Vi 0,Vi 0,Vi 0,Vi 0,Vf,Vn,Vn,Vi 0,Vf,Vi 0,Vi 0,Vi 0,Vi 0,Vn,.string ⟨[].toArray⟩,Vi (-1),Vi (-1)]:=by
 refine Ai.of_T [(0,_)] func100 rfl ntmps100 sM rfl fun w0 hs =>Wt 2 [] hs rfl<|O_s (Sa hs zeroValue137 rfl fun b2 _ hs=>Wp 4 [0] hs rfl<|Zy hs (Er (c:=0) rfl rfl dC dC dC<|Zy hs (Eb (c:=1) rfl rfl dC dC<|Zy hs (Ba zeroValue137 rfl Fu rfl (cs:=[_,_,_,_,_,_,_,_,_,_,_,_,_,_,_,_,_,_,_,_,_,_,_,_,_,_,_,_,_,_,_,_,_]) rfl<|O_n (Sg hs rfl (rfl) fun _ hs=>Wp 1 [0] hs rfl<|Ah<|Zz results100 (Rb 0 hs rfl rF) ?_)))))
 exact ⟨_,[],hs.done,rfl,rfl⟩
theorem Iu {l:List Value} (h:l.all (·.oneCell')=true):∀ y∈l,y.oneCell'=true:=fun y hy=>List.all_eq_true.1 h y hy
theorem jU {α:Type} {R:List Value→α→Prop} (hR:∀ c a,R c a→∀ y∈c,y.oneCell'=true):∀ {css:List (List Value)} {l:List α},Cj R css l→∀ y∈css.flatten,y.oneCell'=true
  | [],[],_,y,hy=>by cases hy
  | c::css,a::l,h,y,hy=>by
    rw [List.flatten_cons] at hy
    rcases List.mem_append.1 hy with hy | hy
    · exact hR c a h.1 y hy
    · exact jU hR h.2 y hy
  | [],_::_,h,_,_=>h.elim
  | _::_,[],h,_,_=>h.elim
theorem Cj.set {α β:Type} {R:α→β→Prop}:∀ {l:List α} {m:List β} {i:Nat} {a:α},Cj R l m→(h:i<m.length)→R a m[i]→Cj R (l.set i a) m
  | [],[],_,_,_,h,_=>absurd h (Nat.not_lt_zero _)
  | x::l,y::m,0,a,h,_,ha=>⟨ha,h.2⟩
  | x::l,y::m,i+1,a,h,hi,ha=>⟨h.1,Cj.set h.2 (by simpa using hi) (by simpa using ha)⟩
  | [],_::_,_,_,h,_,_=>h.elim
  | _::_,[],_,_,h,_,_=>h.elim
def Oo (G:Ghost) (vs:List Value) (l:List (List Int)):Prop:=Cj (fun v r=>Bt G v r) vs l
theorem Oo.mono {G G':Ghost} (h:G.le G') {vs:List Value} {l:List (List Int)} (hl:Oo G vs l):Oo G' vs l:=Cj.mono (fun _ _ hn=>Bt.mono h hn) hl
theorem Oo.snoc {G:Ghost} {vs:List Value} {l:List (List Int)} {v:Value} {r:List Int} (hl:Oo G vs l) (h:Bt G v r):Oo G (vs++[v]) (l++[r]):=Cj.snoc hl h
theorem Oo.fin {G:Ghost} {v:Value} {n:Nat} {vs:List Value} {l:List (List Int)} (h:Sl G v 1 n vs) (hn:n=l.length) (hl:Oo G vs l):Rts G v l:=by
  refine Be.ofSl (cs:=vs.map fun u=>[u]) h ?_ hn ?_ (by intro c hc;obtain ⟨u,_,rfl⟩:=List.mem_map.1 hc;rfl)
  · clear h hn hl
    induction vs with
    | nil=>rfl
    | cons u vs ih=>rw [List.map_cons,List.flatten_cons,← ih];rfl
  · clear h hn
    induction vs generalizing l with
    | nil=>cases l with
      | nil=>trivial
      | cons _ _=>exact hl.elim
    | cons u vs ih=>cases l with
      | nil=>exact hl.elim
      | cons r l=>exact ⟨⟨u,rfl,hl.1⟩,ih hl.2⟩
def Gy (G:Ghost) (css:List (List Value)) (l:List Bm):Prop:=Cj (Gt G) css l∧∀ c∈css,c.length=33
theorem Gy.mono {G G':Ghost} (h:G.le G') {css:List (List Value)} {l:List Bm} (hl:Gy G css l):Gy G' css l:=⟨Cj.mono (fun _ _ h2=>Gt.mono h h2) hl.1,hl.2⟩
theorem Gy.snoc {G:Ghost} {css:List (List Value)} {l:List Bm} {c:List Value} {a:Bm} (hl:Gy G css l) (h:Gt G c a) (hk:c.length=33):Gy G (css++[c]) (l++[a]) :=
  ⟨Cj.snoc hl.1 h,fun d hd=>by rcases List.mem_append.1 hd with hd | hd;exact hl.2 d hd;rw [List.mem_singleton.1 hd];exact hk⟩
theorem Gy.fin {G:Ghost} {css:List (List Value)} {l:List Bm} {v:Value} {n:Nat} (hl:Gy G css l) (h:Sl G v 33 n css.flatten) (hn:n=l.length):fA G v l:=Be.ofSl h rfl hn hl.1 hl.2
theorem Gy.len {G:Ghost} {css:List (List Value)} {l:List Bm} (hl:Gy G css l):css.length=l.length:=Cj.length hl.1
def aY (G:Ghost) (css:List (List Value)) (l:List By):Prop:=Cj (pM G) css l∧∀ c∈css,c.length=2
theorem aY.mono {G G':Ghost} (h:G.le G') {css:List (List Value)} {l:List By} (hl:aY G css l):aY G' css l:=⟨Cj.mono (fun _ _ h2=>pM.mono h h2) hl.1,hl.2⟩
theorem aY.snoc {G:Ghost} {css:List (List Value)} {l:List By} {c:List Value} {a:By} (hl:aY G css l) (h:pM G c a) (hk:c.length=2):aY G (css++[c]) (l++[a]) :=
  ⟨Cj.snoc hl.1 h,fun d hd=>by rcases List.mem_append.1 hd with hd | hd;exact hl.2 d hd;rw [List.mem_singleton.1 hd];exact hk⟩
theorem aY.fin {G:Ghost} {css:List (List Value)} {l:List By} {v:Value} {n:Nat} (hl:aY G css l) (h:Sl G v 2 n css.flatten) (hn:n=l.length):tE G v l:=Be.ofSl h rfl hn hl.1 hl.2
theorem aY.len {G:Ghost} {css:List (List Value)} {l:List By} (hl:aY G css l):css.length=l.length:=Cj.length hl.1
def Pu (G:Ghost) (css:List (List Value)) (l:List Lw):Prop:=Cj (jM G) css l∧∀ c∈css,c.length=4
theorem Pu.mono {G G':Ghost} (h:G.le G') {css:List (List Value)} {l:List Lw} (hl:Pu G css l):Pu G' css l:=⟨Cj.mono (fun _ _ h2=>jM.mono h h2) hl.1,hl.2⟩
theorem Pu.snoc {G:Ghost} {css:List (List Value)} {l:List Lw} {c:List Value} {a:Lw} (hl:Pu G css l) (h:jM G c a) (hk:c.length=4):Pu G (css++[c]) (l++[a]) :=
  ⟨Cj.snoc hl.1 h,fun d hd=>by rcases List.mem_append.1 hd with hd | hd;exact hl.2 d hd;rw [List.mem_singleton.1 hd];exact hk⟩
theorem Pu.fin {G:Ghost} {css:List (List Value)} {l:List Lw} {v:Value} {n:Nat} (hl:Pu G css l) (h:Sl G v 4 n css.flatten) (hn:n=l.length):yR G v l:=Be.ofSl h rfl hn hl.1 hl.2
theorem Pu.len {G:Ghost} {css:List (List Value)} {l:List Lw} (hl:Pu G css l):css.length=l.length:=Cj.length hl.1
def cH (G:Ghost) (css:List (List Value)) (l:List Kt):Prop:=Cj (aA G) css l∧∀ c∈css,c.length=2
theorem cH.mono {G G':Ghost} (h:G.le G') {css:List (List Value)} {l:List Kt} (hl:cH G css l):cH G' css l:=⟨Cj.mono (fun _ _ h2=>aA.mono h h2) hl.1,hl.2⟩
theorem cH.snoc {G:Ghost} {css:List (List Value)} {l:List Kt} {c:List Value} {a:Kt} (hl:cH G css l) (h:aA G c a) (hk:c.length=2):cH G (css++[c]) (l++[a]) :=
  ⟨Cj.snoc hl.1 h,fun d hd=>by rcases List.mem_append.1 hd with hd | hd;exact hl.2 d hd;rw [List.mem_singleton.1 hd];exact hk⟩
theorem cH.fin {G:Ghost} {css:List (List Value)} {l:List Kt} {v:Value} {n:Nat} (hl:cH G css l) (h:Sl G v 2 n css.flatten) (hn:n=l.length):vS G v l:=Be.ofSl h rfl hn hl.1 hl.2
theorem cH.len {G:Ghost} {css:List (List Value)} {l:List Kt} (hl:cH G css l):css.length=l.length:=Cj.length hl.1
theorem _root_.Go.Ex.Ghost.le.mono {a b c:Ghost} (h:a.le b) (h2:b.le c):a.le c:=h.trans h2
theorem jV {k:Nat}:∀ {css:List (List Value)} {i:Nat} {c:List Value},(∀ c∈css,c.length=k)→css[i]?=some c→(css.flatten.drop (i*k)).take k=c
  | [],_,_,_,h=>by cases h
  | d::css,0,c,hk,h=>by
    injection h with h;subst h
    have:=hk d List.mem_cons_self
    rw [List.flatten_cons,Nat.zero_mul,List.drop_zero,List.take_left' this]
  | d::css,i+1,c,hk,h=>by
    have hd:=hk d List.mem_cons_self
    rw [List.flatten_cons,show (i+1)*k=d.length+i*k from by rw [hd,Nat.succ_mul];omega,List.drop_length_add_append]
    exact jV (fun z hz=>hk z (List.mem_cons_of_mem _ hz)) h
theorem Ka {k:Nat} {u:Value}:∀ {css:List (List Value)} {i j:Nat} {c:List Value},(∀ c∈css,c.length=k)→css[i]?=some c→j<k→css.flatten.set (i*k+j) u=(css.set i (c.set j u)).flatten
  | [],_,_,_,_,h,_=>by cases h
  | d::css,0,j,c,hk,h,hj=>by
    injection h with h;subst h
    have:=hk d List.mem_cons_self
    rw [List.flatten_cons,List.set_cons_zero,List.flatten_cons,Nat.zero_mul,Nat.zero_add,List.set_append_left _ _ oM]
  | d::css,i+1,j,c,hk,h,hj=>by
    have hd:=hk d List.mem_cons_self
    rw [List.flatten_cons,List.set_cons_succ,List.flatten_cons,show (i+1)*k+j=d.length+(i*k+j) from by rw [hd,Nat.succ_mul];omega,List.set_append_right _ _ (Nat.le_add_right _ _),Nat.add_sub_cancel_left,Ka (fun z hz=>hk z (List.mem_cons_of_mem _ hz)) h hj]
theorem aZ {k:Nat} {css:List (List Value)} {i:Nat} {e:List Value} (hk:∀ c∈css,c.length=k) (he:e.length=k):∀ c∈css.set i e,c.length=k:=fun c hc=>by
  rcases List.mem_or_eq_of_mem_set hc with h | h
  · exact hk c h
  · rw [h];exact he
theorem jW {ds:List (List Value)} {i:Nat} {c e:List Value} {a b:Value} (hk:∀ c∈ds,c.length=33) (hd:ds[i]?=some c) (he:(c.set 31 a).set 32 b=e):(ds.flatten.set (i*33+31) a).set (i*33+32) b=(ds.set i e).flatten:=by
  have hi:=(List.getElem?_eq_some_iff.1 hd).1
  have hc:=hk c (List.mem_of_getElem? hd)
  rw [Ka hk hd dC,Ka (c:=c.set 31 a) (aZ hk (by simpa using hc)) (List.getElem?_set_self hi) dC,List.set_set,he]
def bA (s:Bm):Bm:={ s with thn:=-1,els:=-1 }
theorem Cj.put {α β:Type} {R:α→β→Prop}:∀ {l:List α} {m:List β} {i:Nat} {a:α} {b:β},Cj R l m→R a b→Cj R (l.set i a) (m.set i b)
  | [],[],_,_,_,_,_=>trivial
  | x::l,y::m,0,a,b,h,ha=>⟨ha,h.2⟩
  | x::l,y::m,i+1,a,b,h,ha=>⟨h.1,Cj.put h.2 ha⟩
  | [],_::_,_,_,_,h,_=>h.elim
  | _::_,[],_,_,_,h,_=>h.elim
def jX (ss:List Bm) (i:Nat):List Bm:=(ss.take i).map bA++ss.drop i
theorem lnUp_at {ss:List Bm} {i:Nat} (h:i<ss.length):(jX ss i)[i]?=some ss[i]:=by
  unfold jX
  rw [List.getElem?_append_right (by rw [List.length_map,List.length_take];omega),List.length_map,List.length_take,Nat.min_eq_left oM,Nat.sub_self,List.getElem?_drop,Nat.add_zero,List.getElem?_eq_getElem h]
theorem tH {ss:List Bm} {i:Nat} (h:i<ss.length):jX ss (i+1)=(jX ss i).set i (bA ss[i]):=by
  unfold jX
  rw [Eh h,List.map_append,List.set_append_right _ _ (by rw [List.length_map,List.length_take];omega),List.length_map,List.length_take,Nat.min_eq_left oM,Nat.sub_self,List.drop_eq_getElem_cons h,List.set_cons_zero,List.append_assoc];rfl
theorem Gy.put {G:Ghost} {css:List (List Value)} {l:List Bm} {i:Nat} {c:List Value} {s:Bm} (h:Gy G css l) (hc:Gt G c s):Gy G (css.set i c) (l.set i s):=⟨Cj.put h.1 hc,aZ h.2 hc.len⟩
theorem lnStep {G:Ghost} {ds:List (List Value)} {ss:List Bm} {i:Nat} {e:List Value} {sm:Bm} (hD:Gy G ds (jX ss i)) (hi:i<ss.length) (hsm:sm=ss[i]) (he:Gt G e (bA sm)):Gy G (ds.set i e) (jX ss (i+1)):=by
  rw [tH hi,← hsm];exact hD.put he
theorem Gy.at_ {G:Ghost} {css:List (List Value)} {l:List Bm} {i:Nat} {s:Bm} (h:Gy G css l) (hs:l[i]?=some s):∃ c,css[i]?=some c∧Gt G c s:=by
  obtain ⟨hi,rfl⟩:=List.getElem?_eq_some_iff.1 hs
  exact Cj.get i h.1 hi
theorem Kv {G:Ghost} {b n:Nat} {css:List (List Value)} {ss:List Bm} (hn:ss.length=n) (h1:1≤n) (h2:n≤100) (hA:Gy G css ss) :
  Ai prog 72 [(Vs b n n)] G [.row 137 33 (Vs b n n) n css.flatten] fun r G' H'=>∃ vs vb es u,r=.agg #[vs,vb]∧Gy G' es (ss.map bA)∧Cr G' u (List.range n)∧H'=[.row 137 33 vs n es.flatten,.row 33 1 vb 1 [u]]:=by
 refine Ai.of_T [(0,_)] func72 rfl ntmps72 sM rfl fun w0 hs=>?_
 have hA0:=hA
 have hM0:=hs.feetLt
 refine Wt 2 [] hs rfl<|O_s (Sa hs zeroValue102 rfl fun b2 _ hs=>Wp 3 [0] hs rfl<|O_s (Se hs zeroValue3 rfl fun v1 _ hs shl=>?_))
 obtain ⟨bl5,rfl⟩:=shl
 refine O_s (Se hs zeroValue33 rfl fun v2 _ hs shl=>?_)
 obtain ⟨bl6,rfl⟩:=shl
 refine Zy hs (Ba zeroValue102 rfl PL102 rfl (cs:=[_,_]) rfl<|O_s (Sa hs zeroValue102 rfl fun b3 _ hs=>O_n (Sg hs rfl (by simp only [List.all_cons,List.all_nil,hs.rowOne 1 rfl];rfl) fun _ hs=>Wp 6 [0,0] hs rfl ?_)))
 have hs:=hs.nilRow 137 33
 have hs:=hs.f4.f5.f3.f4.f5.f5
 refine Zl [0,2,3,4] (fun m E w=>∃ (i:Nat) (ds es:List (List Value)) (vs vb x:Value) (G2:Ghost),i≤n∧Gy G2 ds (jX ss i)∧Gy G2 es ((ss.take i).map bA)∧m=n-i∧E=⟨[],[(0,(Vs b n n)),(2,Vp b2),(3,Vp b3),(4,Vi (i:Int))]⟩∧St ⟨w0,G,Bl [.row 137 33 (Vs b n n) n css.flatten]⟩ G2 [.row 137 33 vs i es.flatten,.row 3 1 x i ((List.range i).map Cm),.row 33 1 vb 1 [x],.blk b3 102 [vs,vb],.row 137 33 (Vs b n n) n ds.flatten,.blk b2 102 [Vn,Vn]] w) rfl (⟨0,css,[],_,_,_,_,by omega,hA,⟨trivial,by simp⟩,rfl,rfl,hs⟩) fun m E w hI=>?_
 obtain ⟨i,ds,es,vs,vb,x,G2,hi,hD,hE,rfl,rfl,hs⟩:=hI
 refine Wt 6 [] hs rfl<|Zy hs (Yc rfl (fun h11=>?_) fun h11=>?_)
 ·
  refine Wp 3 [0] hs rfl ?_
  obtain ⟨sm,hsm⟩:∃ z,z=ss[i]'oM:=⟨_,rfl⟩
  obtain ⟨c0,hdi,hsr⟩:=hD.at_ (lnUp_at (ss:=ss) (i:=i) oM)
  rw [← hsm] at hsr
  obtain ⟨wb,wo,wn,wp,wy,wr,rfl,⟨hb8,nb⟩,⟨ho8,no⟩,⟨hn8,nn⟩,⟨hp8,np⟩,⟨hy8,ny⟩,⟨hr8,nr⟩⟩:=hsr
  obtain ⟨Ab1,cb1,rfl,_⟩:=id hb8
  obtain ⟨Ao1,co1,rfl,_⟩:=id ho8
  obtain ⟨An1,cn1,rfl,_⟩:=id hn8
  obtain ⟨Ap1,cp1,rfl⟩:=Be.slice hp8
  obtain ⟨Ay1,cy1,rfl,_⟩:=id hy8
  obtain ⟨Ar1,cr1,rfl⟩:=Be.slice hr8
  refine Wu 6 [] hs rfl<|Zy hs (Cy (i) underlying100 sizeOf137 rfl rfl rfl oM<|Zy hs (Yf (i * 33+31) rfl<|O_n (Kh hs.f4 sizeOf3 rfl rfl rfl oM fun _ hs =>Wp 5 [0] hs rfl<|Zy hs (Cy (i) underlying100 sizeOf137 rfl rfl rfl oM<|Zy hs (Yf (i * 33+32) rfl<|O_n (Kh hs sizeOf3 rfl rfl rfl oM fun _ hs=>?_))))))
  rw [jW (e:=[Vi sm.kind,Vi sm.x,Vi sm.y,Vi sm.z,Vi sm.n,Vi sm.i,Vi sm.j,.slice Ab1 sm.b.length cb1,.bool sm.last,Vi sm.op.kind,.slice Ao1 sm.op.old.length co1,.slice An1 sm.op.new.length cn1,Af sm.c0,Af sm.c1,Af sm.c2,Af sm.c3,Vi sm.rule.base,Vi sm.rule.digits,Vi sm.rule.top,Vi sm.rule.over,.bool sm.rule.zeros,.slice Ap1 sm.p.length cp1,.slice Ay1 sm.ys.length cy1,Vi sm.cond.kind,.bool sm.cond.neg,Vi sm.cond.x,Vi sm.cond.y,Vi sm.cond.n,Vi sm.cond.k,.slice Ar1 sm.cond.r.length cr1,Hr sm.name,Vi (-1),Vi (-1)]) hD.2 hdi rfl] at hs
  refine Wp 1 [0] hs rfl ?_
  have hD2:=lnStep (e:=[Vi sm.kind,Vi sm.x,Vi sm.y,Vi sm.z,Vi sm.n,Vi sm.i,Vi sm.j,.slice Ab1 sm.b.length cb1,.bool sm.last,Vi sm.op.kind,.slice Ao1 sm.op.old.length co1,.slice An1 sm.op.new.length cn1,Af sm.c0,Af sm.c1,Af sm.c2,Af sm.c3,Vi sm.rule.base,Vi sm.rule.digits,Vi sm.rule.top,Vi sm.rule.over,.bool sm.rule.zeros,.slice Ap1 sm.p.length cp1,.slice Ay1 sm.ys.length cy1,Vi sm.cond.kind,.bool sm.cond.neg,Vi sm.cond.x,Vi sm.cond.y,Vi sm.cond.n,Vi sm.cond.k,.slice Ar1 sm.cond.r.length cr1,Hr sm.name,Vi (-1),Vi (-1)]) hD oM hsm ⟨_,_,_,_,_,_,rfl,⟨hb8,nb⟩,⟨ho8,no⟩,⟨hn8,nn⟩,⟨hp8,np⟩,⟨hy8,ny⟩,⟨hr8,nr⟩⟩
  have hdi2:(ds.set i [Vi sm.kind,Vi sm.x,Vi sm.y,Vi sm.z,Vi sm.n,Vi sm.i,Vi sm.j,.slice Ab1 sm.b.length cb1,.bool sm.last,Vi sm.op.kind,.slice Ao1 sm.op.old.length co1,.slice An1 sm.op.new.length cn1,Af sm.c0,Af sm.c1,Af sm.c2,Af sm.c3,Vi sm.rule.base,Vi sm.rule.digits,Vi sm.rule.top,Vi sm.rule.over,.bool sm.rule.zeros,.slice Ap1 sm.p.length cp1,.slice Ay1 sm.ys.length cy1,Vi sm.cond.kind,.bool sm.cond.neg,Vi sm.cond.x,Vi sm.cond.y,Vi sm.cond.n,Vi sm.cond.k,.slice Ar1 sm.cond.r.length cr1,Hr sm.name,Vi (-1),Vi (-1)])[i]?=some [Vi sm.kind,Vi sm.x,Vi sm.y,Vi sm.z,Vi sm.n,Vi sm.i,Vi sm.j,.slice Ab1 sm.b.length cb1,.bool sm.last,Vi sm.op.kind,.slice Ao1 sm.op.old.length co1,.slice An1 sm.op.new.length cn1,Af sm.c0,Af sm.c1,Af sm.c2,Af sm.c3,Vi sm.rule.base,Vi sm.rule.digits,Vi sm.rule.top,Vi sm.rule.over,.bool sm.rule.zeros,.slice Ap1 sm.p.length cp1,.slice Ay1 sm.ys.length cy1,Vi sm.cond.kind,.bool sm.cond.neg,Vi sm.cond.x,Vi sm.cond.y,Vi sm.cond.n,Vi sm.cond.k,.slice Ar1 sm.cond.r.length cr1,Hr sm.name,Vi (-1),Vi (-1)]:=List.getElem?_set_self (List.getElem?_eq_some_iff.1 hdi).1
  refine Wu 1 [] hs rfl<|Bc [0,1,2,3,4,5,6] hs kR ?_
  replace hs:=hs.drew
  refine Xr [0,1,2,3] [0,4] hs rfl<|Xt 4 hs rfl (Cy (i) underlying100 sizeOf137 rfl rfl rfl oM<|Xt 5 hs rfl (He (i:=i) (vs:=[Vi sm.kind,Vi sm.x,Vi sm.y,Vi sm.z,Vi sm.n,Vi sm.i,Vi sm.j,.slice Ab1 sm.b.length cb1,.bool sm.last,Vi sm.op.kind,.slice Ao1 sm.op.old.length co1,.slice An1 sm.op.new.length cn1,Af sm.c0,Af sm.c1,Af sm.c2,Af sm.c3,Vi sm.rule.base,Vi sm.rule.digits,Vi sm.rule.top,Vi sm.rule.over,.bool sm.rule.zeros,.slice Ap1 sm.p.length cp1,.slice Ay1 sm.ys.length cy1,Vi sm.cond.kind,.bool sm.cond.neg,Vi sm.cond.x,Vi sm.cond.y,Vi sm.cond.n,Vi sm.cond.k,.slice Ar1 sm.cond.r.length cr1,Hr sm.name,Vi (-1),Vi (-1)]) 0 rfl isAgg137 sizeOf137 rfl oM (jV hD2.2 hdi2) rfl ?_))
  have hle:=hs.le
  refine Xo 6 rfl (eJ hs hM0 underlying100 sizeOf137 zeroValue137 kR kR kR rfl (es:=[[_,_,_,_,_,_,_,_,_,_,_,_,_,_,_,_,_,_,_,_,_,_,_,_,_,_,_,_,_,_,_,_,_]]) rfl rfl fun v3 _ _ hG28 hl28 hs=>?_)
  replace hE:=hE.mono hG28
  replace hb8:=hb8.mono hG28
  replace ho8:=ho8.mono hG28
  replace hn8:=hn8.mono hG28
  replace hp8:=hp8.mono hG28
  replace hy8:=hy8.mono hG28
  replace hr8:=hr8.mono hG28
  replace hD2:=hD2.mono hG28
  refine Am hs hle hG28 (lSr _)<|Xa 7 rfl (Bf hs.f1 underlying100 jR rfl dC rfl rfl (hl28) ((Iu rfl)) oM oM fun v4 _ hs =>Xa 8 rfl (S_y hs rfl (Yf 0 rfl<|Xn 9 rfl (Sd hs.f4 rfl (hs.f4.rowOne 1 rfl) fun _ hs=>Xe (Zk [0,2,3,4] rfl ?_)))))
  obtain ⟨bv,cv,rfl,_⟩:=hs.rowForm 4 rfl dC
  have hs:=hs.f3
  have hsW:=hs.drop
  refine Bc [0,1,2,3,4,5,6,7,8,9] hsW kR ?_
  replace hs:=hs.drew
  replace hsW:=hsW.drew
  refine Xr [0,1,2,3] [1,0,1,0] hsW rfl<|Xt 4 hsW rfl (Bj (0) underlying41 sizeOf33 rfl rfl rfl oM<|Xt 5 hsW rfl (Dg 3 rfl isAgg33 rfl (rfl)<|Xr [6] [] hsW rfl ?_))
  have hle:=hs.le
  refine Xo 7 rfl (Od hs hM0 underlying33 sizeOf3 zeroValue3 rfl rfl dC dC rfl (cs:=[_]) rfl rfl fun v5 _ _ hG38 hl38 hs=>?_)
  replace hE:=hE.mono hG38
  replace hb8:=hb8.mono hG38
  replace ho8:=ho8.mono hG38
  replace hn8:=hn8.mono hG38
  replace hp8:=hp8.mono hG38
  replace hy8:=hy8.mono hG38
  replace hr8:=hr8.mono hG38
  replace hD2:=hD2.mono hG38
  have hsW:=hs.drop
  refine Am hsW hle hG38 (lSr _) ?_
  have hle:=hs.le
  refine Xo 8 rfl (Bf hs underlying33 Lb rfl dC rfl rfl (hl38) (Fj rfl) oM oM fun v6 _ hs=>?_)
  have hsW:=hs.drop
  refine Am hsW hle (gLr _) (lSr _)<|Xt 9 hsW rfl (Bj (0) underlying41 sizeOf33 rfl rfl rfl oM<|Xn 10 rfl (Ct hs.f4 sizeOf33 rfl rfl (hs.f4.rowOne 1 rfl) oM fun _ hs =>Xe (Zk [0,2,3,4] rfl<|Wu 2 [] hs rfl<|Zy hs (Ya (s:=((i+1:Nat):Int)) rfl<|Wp 1 [] hs rfl ?_))))
  have hs:=hs.f5.f5.f4.f3.f4.f5
  refine Zx [0,2,3,4] rfl ⟨i+1,_,es++[[Vi sm.kind,Vi sm.x,Vi sm.y,Vi sm.z,Vi sm.n,Vi sm.i,Vi sm.j,.slice Ab1 sm.b.length cb1,.bool sm.last,Vi sm.op.kind,.slice Ao1 sm.op.old.length co1,.slice An1 sm.op.new.length cn1,Af sm.c0,Af sm.c1,Af sm.c2,Af sm.c3,Vi sm.rule.base,Vi sm.rule.digits,Vi sm.rule.top,Vi sm.rule.over,.bool sm.rule.zeros,.slice Ap1 sm.p.length cp1,.slice Ay1 sm.ys.length cy1,Vi sm.cond.kind,.bool sm.cond.neg,Vi sm.cond.x,Vi sm.cond.y,Vi sm.cond.n,Vi sm.cond.k,.slice Ar1 sm.cond.r.length cr1,Hr sm.name,Vi (-1),Vi (-1)]],v4,(Vs bv 1 cv),v6,_,by omega,hD2,(by rw [Eh oM,← hsm,List.map_append];exact hE.snoc ⟨_,_,_,_,_,_,rfl,⟨hb8,nb⟩,⟨ho8,no⟩,⟨hn8,nn⟩,⟨hp8,np⟩,⟨hy8,ny⟩,⟨hr8,nr⟩⟩ rfl),rfl,rfl,Bz (hs.weak hs.le (gLr _) (lSa [_,_,_,_,_,_] _)) (by simp [List.range_succ])⟩
 refine Wp 3 [0] hs rfl ?_
 obtain rfl:i=n:=by omega
 rw [List.take_of_length_le oM] at hE
 refine Wu 3 [3] hs rfl<|O_n (Sg hs.f5 rfl (by simp only [List.all_cons,List.all_nil,hs.f5.rowOne 1 rfl,hs.f5.rowOne 3 rfl];rfl) fun _ hs=>Wp 1 [0] hs rfl<|Ah ?_)
 have hs:=hs.f2
 obtain ⟨_,hG_hfx,hfx,hs⟩:=hs.fixRow (noMr 4 hs rfl)
 replace hE:=hE.mono hG_hfx
 have hs:=hs.f2.f2
 refine Zz results72 (Rb 2 hs rfl rF) ?_
 exact ⟨_,_,hs.weak hs.le (gLr _) (lSa [_,_] _),_,_,es,_,rfl,hE,(by simpa [Cr] using hfx),rfl⟩
theorem pT {v:Value} {G:Ghost} {n:Nat} {xs:List Value} (hx:Sl G v 1 n xs) (h1:∀ y∈xs,y.oneCell'=true) (hn:n≤100000) :
  Ai prog 32 [v] G [] fun r G' H'=>H'=[]∧Sl G' r 1 n xs∧(v=Vn→r=Vn):=by
 obtain ⟨A,cap,rfl,hl'⟩:=id hx
 refine Ai.of_T [(0,_)] func32 rfl ntmps32 sM rfl fun w0 hs=>?_
 have hx0:=hx
 refine Wt 8 [0] hs rfl<|Zy hs (lF underlying33 rfl rfl (fun h4=>?_) (fun h4=>?_))
 ·
  refine Wp 6 [0,0] hs rfl<|Ah<|Zz results32 rfl ?_
  have hn0:n=0:=Sl.nil_of (h4▸hx)
  subst hn0
  have hxs:xs=[]:=List.eq_nil_of_length_eq_zero (by simpa using hl'.1)
  subst hxs
  exact ⟨_,[],hs.done,rfl,Sl.nil _ _,fun _=>rfl⟩
 refine Wp 5 [0] hs rfl<|O_s (Se hs zeroValue3 rfl fun v1 _ hs _=>Wp 1 [] hs rfl<|O_s (Bf hs underlying33 Lb rfl dC rfl rfl (hx) (h1) oM oM fun v2 _ hs =>Wp 2 [0] hs rfl<|Ah<|Zz results32 rfl ?_))
 obtain ⟨G',hG,hf,hs3⟩:=hs.fixRow noM
 exact ⟨G',[],hs3,rfl,by simpa using hf,fun h=>absurd (by injection h) h4⟩
theorem pU {v:Value} {G:Ghost} {n:Nat} {xs:List Value} (hx:Sl G v 1 n xs) (h1:∀ y∈xs,y.oneCell'=true) (hn:n≤100000) :
  Ai prog 32 [v] G [] fun r _ H'=>H'=[.row 3 1 r n xs]∧(v=Vn→r=Vn):=by
 obtain ⟨A,cap,rfl,hl'⟩:=id hx
 refine Ai.of_T [(0,_)] func32 rfl ntmps32 sM rfl fun w0 hs=>?_
 have hx0:=hx
 refine Wt 8 [0] hs rfl<|Zy hs (lF underlying33 rfl rfl (fun h4=>?_) (fun h4=>?_))
 ·
  refine Wp 6 [0,0] hs rfl<|Ah<|Zz results32 rfl ?_
  have hn0:n=0:=Sl.nil_of (h4▸hx)
  subst hn0
  have hxs:xs=[]:=List.eq_nil_of_length_eq_zero (by simpa using hl'.1)
  subst hxs
  have hs:=hs.done.nilRow 3 1
  exact ⟨_,_,hs,rfl,fun _=>rfl⟩
 refine Wp 5 [0] hs rfl<|O_s (Se hs zeroValue3 rfl fun v1 _ hs _=>Wp 1 [] hs rfl<|O_s (Bf hs underlying33 Lb rfl dC rfl rfl (hx) (h1) oM oM fun v2 _ hs =>Wp 2 [0] hs rfl<|Ah<|Zz results32 rfl ?_))
 have hz:=hs
 rw [Nat.zero_add] at hz
 exact ⟨_,_,hz,rfl,fun h=>absurd (by injection h) h4⟩
def els1:List Bm→List Bm
  | []=>[]
  | s::l=>{ s with els:=1 }::l
theorem Gt.setEls {G:Ghost} {c:List Value} {s:Bm} (h:Gt G c s) (z:Int):Gt G (c.set 32 (Vi z)) { s with els:=z }:=by
  obtain ⟨wb,wo,wn,wp,wy,wr,rfl,h⟩:=h
  exact ⟨wb,wo,wn,wp,wy,wr,rfl,h⟩
theorem Gt.setThn {G:Ghost} {c:List Value} {s:Bm} (h:Gt G c s) (z:Int):Gt G (c.set 31 (Vi z)) { s with thn:=z }:=by
  obtain ⟨wb,wo,wn,wp,wy,wr,rfl,h⟩:=h
  exact ⟨wb,wo,wn,wp,wy,wr,rfl,h⟩
theorem En.len {G:Ghost} {vs:List Value} {l:List (List Nat)} (h:En G vs l):vs.length=l.length:=Cj.length h
theorem Gt.plain {G:Ghost} {s:Bm} (h1:s.b=[]) (h2:s.op.old=[]) (h3:s.op.new=[]) (h4:s.p=[]) (h5:s.ys=[]) (h6:s.cond.r=[]):Gt G (lQ s (Vn) (Vn) (Vn) (Vn) (Vn) (Vn)) s:=by
  refine ⟨_,_,_,_,_,_,rfl,⟨?_,fun _=>rfl⟩,⟨?_,fun _=>rfl⟩,⟨?_,fun _=>rfl⟩,⟨?_,fun _=>rfl⟩,⟨?_,fun _=>rfl⟩,⟨?_,fun _=>rfl⟩⟩
  · rw [h1];exact Sl.nil _ _
  · rw [h2];exact Sl.nil _ _
  · rw [h3];exact Sl.nil _ _
  · rw [h4];exact Be.nil
  · rw [h5];exact Sl.nil _ _
  · rw [h6];exact Be.nil
theorem zG {G:Ghost} {es:List (List Value)} {l:List Bm} {c:List Value} {s:Bm} (hE:Gy G es l) (hs:l[0]?=some s) (hc:Gt G c s):Gy G (es.set 0 (c.set 32 (Vi 1))) (els1 l):=by
  cases l with
  | nil=>cases hs
  | cons a l =>
    injection hs with hs;subst hs
    exact hE.put (i:=0) (hc.setEls 1)
def Mq (nm:List UInt8) (x:Int):Bm:={ Bg 13 with name:=nm,x:=x }
def mW:Bm:={ Bg 14 with i:=1 }
theorem Fs {G:Ghost} {vs vb:Value} {es:List (List Value)} {us:List Value} {p:By} {n k:Nat} (hE:Gy G es p.stmts) (hU:En G us p.blocks) (h1:Sl G vs 33 n es.flatten) (h2:Sl G vb 1 k us) (hn:n=p.stmts.length) (hk:k=p.blocks.length) (h3:p.stmts≠[]) (h4:p.blocks≠[]):pM G [vs,vb] p :=
  ⟨vs,vb,rfl,⟨hE.fin h1 hn,fun h=>absurd h h3⟩,⟨En.fin h2 hk hU,fun h=>absurd h h4⟩⟩
theorem Hk {G:Ghost} {b n:Nat} {css:List (List Value)} {ss:List Bm} (hn:ss.length=n) (h1:1≤n) (h2:n≤100) (hA:Gy G css ss) :
  Ai prog 73 [(Vs b n n)] G [.row 137 33 (Vs b n n) n css.flatten] fun r G' H'=>∃ vs vb es us,r=.agg #[vs,vb]∧Gy G' es (els1 (ss.map bA)++[mW])∧En G' us [List.range n,[n]]∧H'=[.row 137 33 vs (n+1) es.flatten,.row 33 1 vb 2 us]:=by
 refine Ai.of_T [(0,_)] func73 rfl ntmps73 sM rfl fun w0 hs=>?_
 have hA0:=hA
 have hM0:=hs.feetLt
 refine Wt 2 [] hs rfl<|O_s (Sa hs zeroValue102 rfl fun b2 _ hs=>Wp 4 [0] hs rfl<|O_s (Sc (Kv hn h1 h2 hA) hs.f1 rfl fun v1 G' H' _ hR hG5 hs=>?_))
 obtain ⟨vs,vb,es,u,rfl,hE,hU,rfl⟩:=hR
 replace hs:=hs.n rfl
 refine O_s (Sa hs zeroValue102 rfl fun b3 _ hs=>O_n (Sg hs rfl (by simp only [List.all_cons,List.all_nil,hs.rowOne 1 rfl,hs.rowOne 2 rfl];rfl) fun _ hs=>Wp 1 [0] hs rfl ?_))
 obtain ⟨bs,cs,rfl,_⟩:=hs.rowForm 1 rfl oM
 obtain ⟨s0,hs0⟩:∃ s,(ss.map bA)[0]?=some s:=⟨_,List.getElem?_eq_getElem kZ⟩
 obtain ⟨c0,hc0,hsr0⟩:=hE.at_ hs0
 refine Wu 4 [0,0] hs rfl<|Zy hs (Cy (0) underlying100 sizeOf137 rfl rfl rfl oM<|Zy hs (Yf (0 * 33+32) rfl<|O_n (Kh hs.f1 sizeOf3 rfl rfl rfl oM fun _ hs=>?_)))
 rw [Ka (k:=33) hE.2 hc0 dC] at hs
 refine Wp 8 [0,1,1,0,1] hs rfl<|O_s (Od hs hM0 underlying33 sizeOf3 zeroValue3 rfl rfl dC dC rfl (cs:=[_]) rfl rfl fun v2 _ _ hG15 hl15 hs=>?_)
 replace hE:=hE.mono hG15
 replace hU:=hU.mono hG15
 replace hsr0:=hsr0.mono hG15
 obtain ⟨A15,c15,rfl,_⟩:=id hl15
 refine O_s (Od hs hM0 underlying41 sizeOf33 zeroValue33 rfl rfl dC dC rfl (cs:=[_]) rfl rfl fun v3 _ _ hG16 hl16 hs=>?_)
 replace hE:=hE.mono hG16
 replace hU:=hU.mono hG16
 replace hsr0:=hsr0.mono hG16
 replace hl15:=hl15.mono hG16
 refine O_s (Bf hs.f2 underlying41 eS rfl dC rfl rfl (hl16) (Fj rfl) oM oM fun v4 _ hs =>Wp 1 [1] hs rfl<|O_n (Sd hs.f2 rfl (hs.f2.rowOne 1 rfl) fun _ hs=>Wp 2 [0] hs rfl<|Bc [0,1,2,3] hs kR ?_))
 replace hs:=hs.drew
 refine Xr [0,1] [0,0] hs rfl ?_
 have hle:=hs.le
 refine Xo 2 rfl (Sc (rrej_ok) hs rfl fun v5 G' H' _ hR hG21 hs=>?_)
 obtain ⟨rfl,rfl⟩:=hR
 replace hs:=hs.n rfl
 replace hE:=hE.mono hG21
 replace hU:=hU.mono hG21
 replace hsr0:=hsr0.mono hG21
 replace hl15:=hl15.mono hG21
 refine Am hs hle hG21 (lSr _) ?_
 have hle:=hs.le
 refine Xo 3 rfl (eJ hs hM0 underlying100 sizeOf137 zeroValue137 kR kR kR rfl (es:=[[_,_,_,_,_,_,_,_,_,_,_,_,_,_,_,_,_,_,_,_,_,_,_,_,_,_,_,_,_,_,_,_,_]]) rfl rfl fun v6 _ _ hG22 hl22 hs=>?_)
 replace hE:=hE.mono hG22
 replace hU:=hU.mono hG22
 replace hsr0:=hsr0.mono hG22
 replace hl15:=hl15.mono hG22
 refine Am hs hle hG22 (lSr _)<|Xa 4 rfl (Bf hs.f2 underlying100 jR rfl dC rfl rfl (hl22) ((Iu rfl)) oM oM fun v7 _ hs =>Xa 5 rfl (S_y hs rfl (Yf 0 rfl<|Xn 6 rfl (Sd hs.f1 rfl (hs.f1.rowOne 1 rfl) fun _ hs=>Xe (Zk [2,3] rfl<|Wu 3 [0] hs rfl<|O_n (Sg hs.f3 rfl (by simp only [List.all_cons,List.all_nil,hs.f3.rowOne 2 rfl,hs.f3.rowOne 3 rfl];rfl) fun _ hs=>Wp 1 [0] hs rfl<|Ah ?_))))))
 have hs:=hs.f3.f3
 refine Zz results73 (Rb 2 hs rfl rF) ?_
 exact ⟨_,_,hs.weak hs.le (gLr _) (lSa [_,_] _),_,_,_++[lQ mW (Vn) (Vn) (Vn) (Vn) (Vn) (Vn)],[u,.slice A15 1 c15],rfl,(zG hE hs0 hsr0).snoc (Gt.plain rfl rfl rfl rfl rfl rfl) rfl,⟨hU,hl15,trivial⟩,by rw [List.flatten_append];rfl⟩
def ifM (cd:Nc):Bm:={ Bg 10 with cond:=cd,thn:=0,els:=0 }
def choM (cd:Nc):List Bm:=[{ Bg 10 with cond:=cd,thn:=1,els:=2 },Mq [120] 0,Mq [121] 0]
theorem Gt.ifS {G:Ghost} {cd:Nc} {vr:Value} (hr:Rx G vr cd.r) (hz:cF vr cd.r):Gt G (lQ (ifM cd) (Vn) (Vn) (Vn) (Vn) (Vn) vr) (ifM cd) :=
  ⟨_,_,_,_,_,_,rfl,⟨Sl.nil _ _,fun _=>rfl⟩,⟨Sl.nil _ _,fun _=>rfl⟩,⟨Sl.nil _ _,fun _=>rfl⟩,⟨Be.nil,fun _=>rfl⟩,⟨Sl.nil _ _,fun _=>rfl⟩,⟨hr,hz⟩⟩
theorem Gy.one {G:Ghost} {c:List Value} {s:Bm} (h:Gt G c s):Gy G [c] [s]:=⟨⟨h,trivial⟩,fun d hd=>by rw [List.mem_singleton.1 hd];exact h.len⟩
theorem cho_acc {G:Ghost} {es:List (List Value)} {c:List Value} {s:Bm} (hE:Gy G es [s]) (hs:es[0]?=some c):Gy G (es.set 0 ((c.set 31 (Vi 1)).set 32 (Vi 2))) [{ s with thn:=1,els:=2 }]:=by
  obtain ⟨c',hc,hs'⟩:=hE.at_ (i:=0) (s:=s) rfl
  rw [hs] at hc
  injection hc with hc;subst hc
  exact hE.put (i:=0) ((hs'.setThn 1).setEls 2)
theorem pV {G:Ghost} {cd:Nc} {Ar:Option Addr} {kr:Nat} (hr:Rx G (.slice Ar cd.r.length kr) cd.r) (hz:cF (.slice Ar cd.r.length kr) cd.r) :
  Ai prog 76 [.agg #[Vi cd.kind,.bool cd.neg,Vi cd.x,Vi cd.y,Vi cd.n,Vi cd.k,.slice Ar cd.r.length kr]] G [] fun r G' H'=>∃ vs vb es us,r=.agg #[vs,vb]∧Gy G' es (choM cd)∧En G' us [[0],[1],[2]]∧H'=[.row 137 33 vs 3 es.flatten,.row 33 1 vb 3 us]:=by
 refine Ai.of_T [(0,_)] func76 rfl ntmps76 sM rfl fun w0 hs=>?_
 have hr0:=hr
 refine Wt 2 [] hs rfl<|O_s (Sb hs rfl fun b1 _ hs=>O_s (Sa hs zeroValue102 rfl fun b2 _ hs=>Wp 4 [0,1] hs rfl<|Zy hs (Ba zeroValue137 rfl Fu rfl (cs:=[_,_,_,_,_,_,_,_,_,_,_,_,_,_,_,_,_,_,_,_,_,_,_,_,_,_,_,_,_,_,_,_,_]) rfl<|O_s (Fp hs underlying100 sizeOf137 zeroValue137 kR kR kR rfl (es:=[[_,_,_,_,_,_,_,_,_,_,_,_,_,_,_,_,_,_,_,_,_,_,_,_,_,_,_,_,_,_,_,_,_]]) rfl rfl fun v1 _ hs shl=>?_))))
 obtain ⟨bl6,rfl⟩:=shl
 refine O_s (Sc (Kv (b:=bl6) (n:=1) (css:=[[Vi 10,Vi 0,Vi 0,Vi 0,Vi 0,Vi 0,Vi 0,Vn,Vf,Vi 0,Vn,Vn,Af 0,Af 0,Af 0,Af 0,Vi 0,Vi 0,Vi 0,Vi 0,Vf,Vn,Vn,Vi cd.kind,.bool cd.neg,Vi cd.x,Vi cd.y,Vi cd.n,Vi cd.k,.slice Ar cd.r.length kr,.string ⟨[].toArray⟩,Vi 0,Vi 0]]) (ss:=[ifM cd]) rfl dC dC (Gy.one (Gt.ifS hr hz))) hs rfl fun v2 G' H' _ hR hG7 hs=>?_)
 obtain ⟨vs,vb,es,u,rfl,hE,hU,rfl⟩:=hR
 replace hs:=hs.n rfl
 refine O_s (Sa hs zeroValue102 rfl fun b3 _ hs=>O_n (Sg hs rfl (by simp only [List.all_cons,List.all_nil,hs.rowOne 1 rfl,hs.rowOne 2 rfl];rfl) fun _ hs=>Wp 1 [0] hs rfl ?_))
 obtain ⟨bs,cs,rfl,_⟩:=hs.rowForm 1 rfl dC
 obtain ⟨c0,hc0,_⟩:=hE.at_ (i:=0) rfl
 refine Wu 4 [0,0] hs rfl<|Zy hs (Cy (0) underlying100 sizeOf137 rfl rfl rfl oM<|Zy hs (Yf (0 * 33+31) rfl<|O_n (Kh hs.f1 sizeOf3 rfl rfl rfl oM fun _ hs =>Wp 5 [0,0,1] hs rfl<|Zy hs (Cy (0) underlying100 sizeOf137 rfl rfl rfl oM<|Zy hs (Yf (0 * 33+32) rfl<|O_n (Kh hs sizeOf3 rfl rfl rfl oM fun _ hs=>?_))))))
 rw [jW (c:=c0) hE.2 hc0 rfl] at hs
 refine Wp 5 [0,1,1] hs rfl<|O_s (Se hs zeroValue3 rfl fun v3 _ hs _=>?_)
 have hsN:=hs.fixRow noM
 clear hs
 obtain ⟨_,hG18,hl18,hs⟩:=hsN
 replace hE:=hE.mono hG18
 replace hU:=hU.mono hG18
 obtain ⟨A18,c18,rfl,_⟩:=id hl18
 refine O_s (Se hs zeroValue33 rfl fun v4 _ hs _=>?_)
 obtain ⟨_,hG19,hl19,hs⟩:=hs.fixRow noM
 replace hE:=hE.mono hG19
 replace hU:=hU.mono hG19
 replace hl18:=hl18.mono hG19
 refine O_s (Bf hs.f2 underlying41 eS rfl dC rfl rfl (hl19) (Fj rfl) oM oM fun v5 _ hs =>Wp 1 [1] hs rfl<|O_n (Sd hs.f2 rfl (hs.f2.rowOne 1 rfl) fun _ hs=>Wp 5 [2,2,3,1,0] hs rfl<|O_s (Se hs zeroValue3 rfl fun v6 _ hs _=>?_)))
 have hsN:=hs.fixRow noM
 clear hs
 obtain ⟨_,hG24,hl24,hs⟩:=hsN
 replace hE:=hE.mono hG24
 replace hU:=hU.mono hG24
 replace hl18:=hl18.mono hG24
 obtain ⟨A24,c24,rfl,_⟩:=id hl24
 refine O_s (Se hs zeroValue33 rfl fun v7 _ hs _=>?_)
 obtain ⟨_,hG25,hl25,hs⟩:=hs.fixRow noM
 replace hE:=hE.mono hG25
 replace hU:=hU.mono hG25
 replace hl18:=hl18.mono hG25
 replace hl24:=hl24.mono hG25
 refine O_s (Bf hs.f1 underlying41 eS rfl dC rfl rfl (hl25) (Fj rfl) oM oM fun v8 _ hs =>Wp 1 [1] hs rfl<|O_n (Sd hs.f1 rfl (hs.f1.rowOne 1 rfl) fun _ hs=>Wp 2 [0] hs rfl<|Bc [0,1,2,3] hs kR ?_))
 replace hs:=hs.drew
 refine Xr [0,1] [0,0] hs rfl ?_
 have hle:=hs.le
 refine Xo 2 rfl (Sc (jT (x:=0)) hs rfl fun v9 G' H' _ hR hG30 hs=>?_)
 obtain ⟨rfl,rfl⟩:=hR
 replace hs:=hs.n rfl
 replace hE:=hE.mono hG30
 replace hU:=hU.mono hG30
 replace hl18:=hl18.mono hG30
 replace hl24:=hl24.mono hG30
 refine Am hs hle hG30 (lSr _) ?_
 have hle:=hs.le
 refine Xo 3 rfl (Fp hs underlying100 sizeOf137 zeroValue137 kR kR kR rfl (es:=[[_,_,_,_,_,_,_,_,_,_,_,_,_,_,_,_,_,_,_,_,_,_,_,_,_,_,_,_,_,_,_,_,_]]) rfl rfl fun v10 _ hs _=>?_)
 obtain ⟨_,hG31,hl31,hs⟩:=hs.fixRow noM
 replace hE:=hE.mono hG31
 replace hU:=hU.mono hG31
 replace hl18:=hl18.mono hG31
 replace hl24:=hl24.mono hG31
 refine Am hs hle hG31 (lSr _)<|Xa 4 rfl (Bf hs.f2 underlying100 jR rfl dC rfl rfl (hl31) ((Iu rfl)) oM oM fun v11 _ hs =>Xa 5 rfl (S_y hs rfl (Yf 0 rfl<|Xn 6 rfl (Sd hs.f1 rfl (hs.f1.rowOne 1 rfl) fun _ hs=>Xe (Zk [2,3] rfl<|Wu 1 [] hs rfl<|Bc [0,1,2,3] hs kR ?_)))))
 replace hs:=hs.drew
 refine Xr [0,1] [0,0] hs rfl ?_
 have hle:=hs.le
 refine Xo 2 rfl (Sc (zF (x:=0)) hs rfl fun v12 G' H' _ hR hG36 hs=>?_)
 obtain ⟨rfl,rfl⟩:=hR
 replace hs:=hs.n rfl
 replace hE:=hE.mono hG36
 replace hU:=hU.mono hG36
 replace hl18:=hl18.mono hG36
 replace hl24:=hl24.mono hG36
 refine Am hs hle hG36 (lSr _) ?_
 have hle:=hs.le
 refine Xo 3 rfl (Fp hs underlying100 sizeOf137 zeroValue137 kR kR kR rfl (es:=[[_,_,_,_,_,_,_,_,_,_,_,_,_,_,_,_,_,_,_,_,_,_,_,_,_,_,_,_,_,_,_,_,_]]) rfl rfl fun v13 _ hs _=>?_)
 obtain ⟨_,hG37,hl37,hs⟩:=hs.fixRow noM
 replace hE:=hE.mono hG37
 replace hU:=hU.mono hG37
 replace hl18:=hl18.mono hG37
 replace hl24:=hl24.mono hG37
 refine Am hs hle hG37 (lSr _)<|Xa 4 rfl (Bf hs.f1 underlying100 jR rfl dC rfl rfl (hl37) ((Iu rfl)) oM oM fun v14 _ hs =>Xa 5 rfl (S_y hs rfl (Yf 0 rfl<|Xn 6 rfl (Sd hs.f1 rfl (hs.f1.rowOne 1 rfl) fun _ hs=>Xe (Zk [2,3] rfl<|Wu 3 [0] hs rfl<|O_n (Sg hs.f3 rfl (by simp only [List.all_cons,List.all_nil,hs.f3.rowOne 2 rfl,hs.f3.rowOne 3 rfl];rfl) fun _ hs=>Wp 1 [0] hs rfl<|Ah ?_))))))
 have hs:=hs.f3.f3
 refine Zz results76 (Rb 2 hs rfl rF) ?_
 exact ⟨_,_,hs.weak hs.le (gLr _) (lSa [_,_] _),_,_,_++[lQ (Mq [120] 0) (Vn) (Vn) (Vn) (Vn) (Vn) (Vn)]++[lQ (Mq [121] 0) (Vn) (Vn) (Vn) (Vn) (Vn) (Vn)],[u,.slice A18 1 c18,.slice A24 1 c24],rfl,((cho_acc hE hc0).snoc (Gt.plain rfl rfl rfl rfl rfl rfl) rfl).snoc (Gt.plain rfl rfl rfl rfl rfl rfl) rfl,⟨hU,hl18,hl24,trivial⟩,by rw [List.flatten_append,List.flatten_append];rfl⟩
theorem fO {G:Ghost} {bb:Nat} {vs vb:Value} {z1 z1' z3 z4 j:Int} {z2:Bool} (h0:0≤z1) (h12:z1+1≤12) (hz:z1+1=z1') :
  Ai prog 143 [Vp bb] G [.blk bb 174 [vs,vb,Vi j,Vi z1,.bool z2,Vi z3,Vi z4]] fun r _ H'=>r=Vi z1∧H'=[.blk bb 174 [vs,vb,Vi j,Vi z1',.bool z2,Vi z3,Vi z4]]:=by
 subst hz
 refine Ai.of_T [(0,_)] func143 rfl ntmps143 sM rfl fun w0 hs =>Wt 7 [0] hs rfl<|Zy hs (Fi rfl<|Wp 8 [3,0,0] hs rfl<|Zy hs (Fi rfl<|Wp 2 [3,0] hs rfl<|Zy hs (Eb (c:=(z1+1)) rfl rfl (rfl) oM<|Zy hs (nN (c:=(z1+1)) rfl rfl oM<|Zy hs (Fi rfl<|Wp 1 [3] hs rfl<|O_n (Sd hs rfl rfl fun _ hs=>Wp 6 [0,0] hs rfl<|Ah<|Zz results143 rfl ?_))))))
 exact ⟨_,_,hs,rfl,rfl⟩
theorem Pk {G:Ghost} {bb bv cv k j n m:Nat} {vs x:Value} {xs:List Value} {css:List (List Value)} {l:List Nat} {z1 z3 z4:Int} {z2:Bool} {q0 q1 q2 q3 q4 q5 q6 q7 q8 q9 q10 q11 q12 q13 q14 q15 q16 q17 q18 q19 q20 q21 q22 q23 q24 q25 q26 q27 q28 q29 q30 q31 q32:Value} (hjk:j<k) (hx:xs[j]?=some x) (hlm:l.length=m) (hn:n≤1000) (hm:m≤1000) (h1:[q0,q1,q2,q3,q4,q5,q6,q7,q8,q9,q10,q11,q12,q13,q14,q15,q16,q17,q18,q19,q20,q21,q22,q23,q24,q25,q26,q27,q28,q29,q30,q31,q32].all (fun c=>c.oneCell')=true) :
  Ai prog 104 [Vp bb,.agg #[q0,q1,q2,q3,q4,q5,q6,q7,q8,q9,q10,q11,q12,q13,q14,q15,q16,q17,q18,q19,q20,q21,q22,q23,q24,q25,q26,q27,q28,q29,q30,q31,q32]] G [.blk bb 174 [vs,(Vs bv k cv),Vi (j:Int),Vi z1,.bool z2,Vi z3,Vi z4],.row 137 33 vs n css.flatten,.row 33 1 (Vs bv k cv) k xs,.row 3 1 x m (l.map Cm)] fun r _ H'=>∃ vs' x',H'=[.blk bb 174 [vs',(Vs bv k cv),Vi (j:Int),Vi z1,.bool z2,Vi z3,Vi z4],.row 137 33 vs' (n+1) (css++[[q0,q1,q2,q3,q4,q5,q6,q7,q8,q9,q10,q11,q12,q13,q14,q15,q16,q17,q18,q19,q20,q21,q22,q23,q24,q25,q26,q27,q28,q29,q30,q31,q32]]).flatten,.row 33 1 (Vs bv k cv) k (xs.set j x'),.row 3 1 x' (m+1) ((l++[n]).map Cm)]:=by
 refine Ai.of_T [(0,_),(1,_)] func104 rfl ntmps104 sM rfl fun w0 hs=>?_
 have hM0:=hs.feetLt
 refine Wt 2 [] hs rfl<|O_s (Sb hs rfl fun b3 _ hs=>Wp 1 [0] hs rfl ?_)
 have hs:=hs.f4
 have hsW:=hs.drop
 refine Wu 1 [] hs rfl<|Bc [0,1,2,3,4,5,6,7,8,9,10,11,12,13,14,15,16,17,18,19,20,21,22,23,24,25,26,27,28] hsW kR ?_
 replace hs:=hs.drew
 replace hsW:=hsW.drew
 refine Xr [0] [] hsW rfl<|Xt 1 hsW rfl (Fi rfl<|Xr [2,3,4,5] [0,1,1] hsW rfl<|Xt 6 hsW rfl (Fi rfl<|Xr [7,8,9] [2,1] hsW rfl<|Xt 10 hsW rfl (Fi rfl<|Xr [11,12,13,14] [0,1,1] hsW rfl<|Xt 15 hsW rfl (Fi rfl<|Xr [16,17] [2,1] hsW rfl<|Xt 18 hsW rfl (Bj (j) underlying41 sizeOf33 rfl rfl rfl oM<|Xt 19 hsW rfl (Dg 3 rfl isAgg33 rfl (hx)<|Xr [20] [] hsW rfl<|Xt 21 hsW rfl (Fi rfl<|Xr [22,23,24] [0,0,1] hsW rfl<|Xt 25 hsW rfl (Dq 2 rfl underlying100 rfl hsW ?_))))))))
 have hle:=hs.le
 refine Xo 26 rfl (Od hs hM0 underlying33 sizeOf3 zeroValue3 rfl rfl dC dC rfl (cs:=[_]) rfl rfl fun v1 _ _ hG30 hl30 hs=>?_)
 have hsW:=hs.drop
 refine Am hsW hle hG30 (lSr _) ?_
 have hle:=hs.le
 refine Xo 27 rfl (Bf hs underlying33 Lb rfl dC rfl rfl (hl30) (Fj rfl) oM oM fun v2 _ hs=>?_)
 have hsW:=hs.drop
 refine Am hsW hle (gLr _) (lSr _)<|Xt 28 hsW rfl (Bj (j) underlying41 sizeOf33 rfl rfl rfl oM<|Xn 29 rfl (Ct hs.f4 sizeOf33 rfl rfl (hs.f4.rowOne 1 rfl) oM fun _ hs =>Xe (Zk [0,3] rfl<|Bc [1,2,3,4,5,6,7] hs kR ?_)))
 replace hs:=hs.drew
 refine Ky 0 rfl kR rfl (Tu rfl<|Xr [1] [] hs rfl<|Xt 2 hs rfl (Fi rfl<|Xr [3,4,5,6] [0,0,3,2] hs rfl ?_))
 have hle:=hs.le
 refine Xo 7 rfl (eJ hs hM0 underlying100 sizeOf137 zeroValue137 kR kR kR rfl (es:=[[_,_,_,_,_,_,_,_,_,_,_,_,_,_,_,_,_,_,_,_,_,_,_,_,_,_,_,_,_,_,_,_,_]]) rfl rfl fun v3 _ _ hG40 hl40 hs =>Am hs hle hG40 (lSr _)<|Xa 8 rfl (Bf hs.f4 underlying100 jR rfl dC rfl rfl (hl40) ((Iu h1)) oM oM fun v4 _ hs =>Xa 9 rfl (S_y hs rfl (Fi rfl<|Xa 10 rfl (S_y hs rfl (Yf 0 rfl<|Xa 11 rfl (S_y hs rfl (Yf 0 rfl<|Xn 12 rfl (Sd hs.f4 rfl (hs.f4.rowOne 1 rfl) fun _ hs=>?_)))))))))
 have hs:=hs.f3.f3.f3.f3
 refine Qh kR (Ez (vs:=[]) results104 rfl trivial ?_)
 try dsimp only [tup]
 exact ⟨_,_,hs.weak hs.le (gLr _) (lSa [_,_,_,_] _),_,_,by rw [List.flatten_append,List.map_append];rfl⟩
theorem rbsu_ok {G:Ghost} {bb bv cv k j n:Nat} {vs:Value} {xs:List Value} {css:List (List Value)} {z1 z3 z4:Int} {z2:Bool} {q0 q1 q2 q3 q4 q5 q6 q7 q8 q9 q10 q11 q12 q13 q14 q15 q16 q17 q18 q19 q20 q21 q22 q23 q24 q25 q26 q27 q28 q29 q30 q31 q32:Value} (hk:k≤1000) (hxk:xs.length=k) (hn:n≤1000) (h1:[q0,q1,q2,q3,q4,q5,q6,q7,q8,q9,q10,q11,q12,q13,q14,q15,q16,q17,q18,q19,q20,q21,q22,q23,q24,q25,q26,q27,q28,q29,q30,q31,q32].all (fun c=>c.oneCell')=true) :
  Ai prog 144 [Vp bb,.agg #[q0,q1,q2,q3,q4,q5,q6,q7,q8,q9,q10,q11,q12,q13,q14,q15,q16,q17,q18,q19,q20,q21,q22,q23,q24,q25,q26,q27,q28,q29,q30,q31,q32]] G [.blk bb 174 [vs,(Vs bv k cv),Vi (j:Int),Vi z1,.bool z2,Vi z3,Vi z4],.row 137 33 vs n css.flatten,.row 33 1 (Vs bv k cv) k xs] fun r _ H'=>r=Vi (k:Int)∧∃ vs' bw cw x',H'=[.blk bb 174 [vs',(Vs bw (k+1) cw),Vi (j:Int),Vi z1,.bool z2,Vi z3,Vi z4],.row 137 33 vs' (n+1) (css++[[q0,q1,q2,q3,q4,q5,q6,q7,q8,q9,q10,q11,q12,q13,q14,q15,q16,q17,q18,q19,q20,q21,q22,q23,q24,q25,q26,q27,q28,q29,q30,q31,q32]]).flatten,.row 33 1 (Vs bw (k+1) cw) (k+1) (xs++[x']),.row 3 1 x' 1 ([n].map Cm)]:=by
 refine Ai.of_T [(0,_),(1,_)] func144 rfl ntmps144 sM rfl fun w0 hs=>?_
 have hM0:=hs.feetLt
 refine Wt 2 [] hs rfl<|O_s (Sb hs rfl fun b3 _ hs=>Wp 5 [0] hs rfl<|Zy hs (Fi rfl<|Wp 10 [0,1,1,0] hs rfl<|Zy hs (Fi rfl<|Wp 3 [0,1,1] hs rfl<|O_s (Se hs zeroValue3 rfl fun v1 _ hs shl=>?_))))
 obtain ⟨bl19,rfl⟩:=shl
 refine O_s (Od hs hM0 underlying41 sizeOf33 zeroValue33 rfl rfl dC dC rfl (cs:=[_]) rfl rfl fun v2 _ _ hG20 hl20 hs =>O_s (Bf hs.f4 underlying41 eS rfl dC rfl rfl (hl20) (Fj rfl) oM oM fun v3 _ hs =>Zy hs (Fi rfl<|Wp 2 [0,1] hs rfl<|O_n (Sd hs.f3 rfl (hs.f3.rowOne 1 rfl) fun _ hs=>Wp 4 [3,0,3,5] hs rfl<|Zy hs (Fi rfl<|Wp 8 [2,0,0] hs rfl<|Zy hs (Fi rfl<|Wp 1 [2] hs rfl<|O_n (Sd hs rfl rfl fun _ hs=>Wp 1 [0] hs rfl ?_)))))))
 obtain ⟨bw,cw,rfl,_⟩:=hs.rowForm 1 rfl oM
 refine Wu 4 [3] hs rfl<|O_s (Sc (Pk (k:=k+1) (j:=k) (m:=0) (l:=[]) (x:=Vs bl19 0 0) oM (by rw [List.getElem?_append_right oM,hxk,Nat.sub_self];rfl) rfl hn oM h1) hs.f2.f2.f4.f3 rfl fun v4 G' H' _ hR hG35 hs=>?_)
 obtain ⟨vsN,xN,rfl⟩:=hR
 replace hs:=hs.n rfl
 refine Wp 5 [0] hs rfl<|Zy hs (Fi rfl<|Wp 1 [2] hs rfl<|O_n (Sd hs rfl rfl fun _ hs=>Wp 6 [0,0] hs rfl<|Ah ?_))
 have hs:=hs.f3.f3.f3.f3
 refine Zz results144 rfl ?_
 exact ⟨_,_,hs.weak hs.le (gLr _) (lSa [_,_,_,_] _),rfl,vsN,bw,cw,xN,by simp [hxk]⟩
theorem rblo_ok {G:Ghost} {bb bv cv:Nat} {x0:Value} {z3 z4:Int} {z2:Bool} :
  Ai prog 103 [Vp bb,.agg #[.int .u8 0,.int .u8 0,.int .u8 1,.int .u8 1],Vi 0] G [.blk bb 174 [Vn,(Vs bv 1 cv),Vi 0,Vi 1,.bool z2,Vi z3,Vi z4],.row 137 33 (Vn) 0 [],.row 33 1 (Vs bv 1 cv) 1 [x0],.row 3 1 x0 0 []] fun r G' H'=>∃ vs bz cz xb xe xd A77 c77,Cv G' (.slice A77 1 c77) [97]∧H'=[.blk bb 174 [vs,(Vs bz 3 cz),Vi 0,Vi 2,.bool z2,Vi z3,Vi z4],.row 137 33 vs 5 [[Vi 1,Vi 0,Vi 1,Vi 0,Vi 0,Vi 0,Vi 0,Vn,Vf,Vi 0,Vn,Vn,Af 0,Af 0,Af 0,Af 0,Vi 0,Vi 0,Vi 0,Vi 0,Vf,Vn,Vn,Vi 0,Vf,Vi 0,Vi 0,Vi 0,Vi 0,Vn,.string ⟨[].toArray⟩,Vi (-1),Vi (-1)],[Vi 11,Vi 0,Vi 0,Vi 0,Vi 0,Vi 2,Vi 5,Vn,Vf,Vi 0,Vn,Vn,Af 0,Af 0,Af 0,Af 0,Vi 0,Vi 0,Vi 0,Vi 0,Vf,Vn,Vn,Vi 0,Vf,Vi 0,Vi 0,Vi 0,Vi 0,Vn,.string ⟨[].toArray⟩,Vi 1,Vi (-1)],[Vi 3,Vi 1,Vi 2,Vi 3,Vi 0,Vi 0,Vi 0,.slice A77 1 c77,Vf,Vi 0,Vn,Vn,Af 0,Af 0,Af 0,Af 0,Vi 0,Vi 0,Vi 0,Vi 0,Vf,Vn,Vn,Vi 0,Vf,Vi 0,Vi 0,Vi 0,Vi 0,Vn,.string ⟨[].toArray⟩,Vi (-1),Vi 2],[Vi 12,Vi 0,Vi 0,Vi 0,Vi 0,Vi 0,Vi 0,Vn,Vf,Vi 0,Vn,Vn,Af 0,Af 0,Af 0,Af 0,Vi 0,Vi 0,Vi 0,Vi 0,Vf,Vn,Vn,Vi 0,Vf,Vi 0,Vi 0,Vi 0,Vi 0,Vn,.string ⟨[].toArray⟩,Vi (-1),Vi (-1)],[Vi 1,Vi 3,Vi 1,Vi 0,Vi 0,Vi 0,Vi 0,Vn,Vf,Vi 0,Vn,Vn,Af 0,Af 0,Af 0,Af 0,Vi 0,Vi 0,Vi 0,Vi 0,Vf,Vn,Vn,Vi 0,Vf,Vi 0,Vi 0,Vi 0,Vi 0,Vn,.string ⟨[].toArray⟩,Vi (-1),Vi (-1)]].flatten,.row 33 1 (Vs bz 3 cz) 3 [xb,xe,xd],.row 3 1 xb 2 ([0,1].map Cm),.row 3 1 xe 2 ([2,4].map Cm),.row 3 1 xd 1 ([3].map Cm)]:=by
 refine Ai.of_T [(0,_),(1,_),(2,_)] func103 rfl ntmps103 sM rfl fun w0 hs=>?_
 have hM0:=hs.feetLt
 refine Wt 2 [] hs rfl<|O_s (Sb hs rfl fun b4 _ hs=>Wp 4 [0] hs rfl<|O_s (Sc (fO (z1:=1) (z1':=2) dC dC rfl) hs.f1 rfl fun v1 G' H' _ hR hG15 hs=>?_))
 obtain ⟨rfl,rfl⟩:=hR
 replace hs:=hs.n rfl
 refine Wp 5 [0] hs rfl<|O_s (Sc (fO (z1:=2) (z1':=3) dC dC rfl) hs rfl fun v2 G' H' _ hR hG17 hs=>?_)
 obtain ⟨rfl,rfl⟩:=hR
 replace hs:=hs.n rfl
 refine Wp 5 [0] hs rfl<|O_s (Sc (fO (z1:=3) (z1':=4) dC dC rfl) hs rfl fun v3 G' H' _ hR hG19 hs=>?_)
 obtain ⟨rfl,rfl⟩:=hR
 replace hs:=hs.n rfl
 refine Wp 7 [0] hs rfl<|Zy hs (Ba zeroValue137 rfl Fu rfl (cs:=[_,_,_,_,_,_,_,_,_,_,_,_,_,_,_,_,_,_,_,_,_,_,_,_,_,_,_,_,_,_,_,_,_]) rfl<|O_s (Sc (Pk (k:=1) (j:=0) (n:=0) (m:=0) (l:=[]) (css:=[]) (xs:=[x0]) dC rfl rfl dC dC rfl) hs.f4.f4.f4.f3 rfl fun v4 G' H' _ hR hG24 hs=>?_))
 obtain ⟨vs1,xa,rfl⟩:=hR
 replace hs:=hs.n rfl
 refine Wp 2 [0] hs rfl<|Bc [0,1,2,3,4,5,6,7,8,9,10,11,12,13,14,15,16,17] hs kR ?_
 replace hs:=hs.drew
 refine Xr [0,1] [2,4] hs rfl<|Xt 2 hs rfl (Dj underlying5 underlying3 (c:=1) rfl dC<|Xt 3 hs rfl (Er (c:=1) rfl rfl dC dC dC<|Xt 4 hs rfl (Eb (c:=(2)) rfl rfl dC dC<|Xr [5,6] [3,4] hs rfl<|Xt 7 hs rfl (Dj underlying5 underlying3 (c:=1) rfl dC<|Xt 8 hs rfl (Er (c:=1) rfl rfl dC dC dC<|Xt 9 hs rfl (Eb (c:=(5)) rfl rfl dC dC<|Xr [10] [] hs rfl<|Xt 11 hs rfl (Fi rfl<|Xr [12,13,14,15] [0,1,0] hs rfl<|Xt 16 hs rfl (Ba zeroValue137 rfl Fu rfl (cs:=[_,_,_,_,_,_,_,_,_,_,_,_,_,_,_,_,_,_,_,_,_,_,_,_,_,_,_,_,_,_,_,_,_]) rfl ?_))))))))
 have hle:=hs.le
 refine Xo 17 rfl (Sa hs zeroValue137 rfl fun b9 _ hs=>Am hs hle (gLr _) (List.sublist_cons_self _ _)<|Xn 18 rfl (Sg hs rfl (rfl) fun _ hs=>Xe (Zk [0,6,7,8,9] rfl<|Wu 4 [0] hs rfl<|O_s (Sc (Pk (k:=1) (j:=0) (n:=1) (m:=1) (l:=[0]) (css:=[[Vi 1,Vi 0,Vi 1,Vi 0,Vi 0,Vi 0,Vi 0,Vn,Vf,Vi 0,Vn,Vn,Af 0,Af 0,Af 0,Af 0,Vi 0,Vi 0,Vi 0,Vi 0,Vf,Vn,Vn,Vi 0,Vf,Vi 0,Vi 0,Vi 0,Vi 0,Vn,.string ⟨[].toArray⟩,Vi (-1),Vi (-1)]]) (xs:=[xa]) dC rfl rfl dC dC rfl) hs.f4.f4.f4.f4 rfl fun v5 G' H' _ hR hG44 hs=>?_))))
 obtain ⟨vs2,xb,rfl⟩:=hR
 replace hs:=hs.n rfl
 refine Wp 5 [0] hs rfl<|Zy hs (Fi rfl<|Wp 3 [0,1,0] hs rfl<|O_s (Se hs zeroValue3 rfl fun v6 _ hs shl=>?_))
 obtain ⟨bl51,rfl⟩:=shl
 refine O_s (Od hs hM0 underlying41 sizeOf33 zeroValue33 rfl rfl dC dC rfl (cs:=[_]) rfl rfl fun v7 _ _ hG52 hl52 hs =>O_s (Bf hs.f3 underlying41 eS rfl dC rfl rfl (hl52) (Fj rfl) oM oM fun v8 _ hs =>Zy hs (Fi rfl<|Wp 2 [0,1] hs rfl<|O_n (Sd hs.f2 rfl (hs.f2.rowOne 1 rfl) fun _ hs=>Wp 1 [0] hs rfl ?_))))
 obtain ⟨bw,cw,rfl,_⟩:=hs.rowForm 1 rfl dC
 refine Wu 3 [] hs rfl<|Zy hs (Fi rfl<|Wp 9 [2,0,6,0,6,7,8,9,10,31,5] hs rfl<|Zy hs (Fi rfl<|Wp 1 [2] hs rfl<|O_n (Sd hs rfl rfl fun _ hs=>Wp 3 [0] hs rfl<|Zy hs (Ba zeroValue137 rfl Fu rfl (cs:=[_,_,_,_,_,_,_,_,_,_,_,_,_,_,_,_,_,_,_,_,_,_,_,_,_,_,_,_,_,_,_,_,_]) rfl<|O_s (Sa hs zeroValue137 rfl fun b11 _ hs=>O_n (Sg hs rfl (rfl) fun _ hs=>Wp 4 [0] hs rfl<|Zy hs (Fi rfl<|Wp 3 [0,0,1] hs rfl<|Zy hs (Dq 4 rfl underlying100 rfl hs<|Wp 8 [0] hs rfl<|O_s (Od hs hM0 underlying29 sizeOf5 zeroValue5 rfl rfl dC dC rfl (cs:=[_]) rfl rfl fun v9 _ _ hG77 hl77 hs=>?_)))))))))
 obtain ⟨A77,c77,rfl,_⟩:=id hl77
 refine Zy hs (Ba zeroValue137 rfl Fu rfl (cs:=[_,_,_,_,_,_,_,_,_,_,_,_,_,_,_,_,_,_,_,_,_,_,_,_,_,_,_,_,_,_,_,_,_]) rfl<|O_s (Sc (Pk (k:=2) (j:=1) (n:=2) (m:=0) (l:=[]) (css:=[[Vi 1,Vi 0,Vi 1,Vi 0,Vi 0,Vi 0,Vi 0,Vn,Vf,Vi 0,Vn,Vn,Af 0,Af 0,Af 0,Af 0,Vi 0,Vi 0,Vi 0,Vi 0,Vf,Vn,Vn,Vi 0,Vf,Vi 0,Vi 0,Vi 0,Vi 0,Vn,.string ⟨[].toArray⟩,Vi (-1),Vi (-1)],[Vi 11,Vi 0,Vi 0,Vi 0,Vi 0,Vi 2,Vi 5,Vn,Vf,Vi 0,Vn,Vn,Af 0,Af 0,Af 0,Af 0,Vi 0,Vi 0,Vi 0,Vi 0,Vf,Vn,Vn,Vi 0,Vf,Vi 0,Vi 0,Vi 0,Vi 0,Vn,.string ⟨[].toArray⟩,Vi 1,Vi (-1)]]) (xs:=[xb,Vs bl51 0 0]) dC rfl rfl dC dC rfl) hs.f3.f3.f4.f4 rfl fun v10 G' H' _ hR hG79 hs=>?_))
 obtain ⟨vs3,xc,rfl⟩:=hR
 replace hs:=hs.n rfl
 replace hl77:=hl77.mono hG79
 refine Wp 5 [7,0,6,7,8,10,11,12,4] hs rfl<|O_s (Sc (rbsu_ok (k:=2) (j:=1) (n:=3) (css:=[[Vi 1,Vi 0,Vi 1,Vi 0,Vi 0,Vi 0,Vi 0,Vn,Vf,Vi 0,Vn,Vn,Af 0,Af 0,Af 0,Af 0,Vi 0,Vi 0,Vi 0,Vi 0,Vf,Vn,Vn,Vi 0,Vf,Vi 0,Vi 0,Vi 0,Vi 0,Vn,.string ⟨[].toArray⟩,Vi (-1),Vi (-1)],[Vi 11,Vi 0,Vi 0,Vi 0,Vi 0,Vi 2,Vi 5,Vn,Vf,Vi 0,Vn,Vn,Af 0,Af 0,Af 0,Af 0,Vi 0,Vi 0,Vi 0,Vi 0,Vf,Vn,Vn,Vi 0,Vf,Vi 0,Vi 0,Vi 0,Vi 0,Vn,.string ⟨[].toArray⟩,Vi 1,Vi (-1)],[Vi 3,Vi 1,Vi 2,Vi 3,Vi 0,Vi 0,Vi 0,.slice A77 1 c77,Vf,Vi 0,Vn,Vn,Af 0,Af 0,Af 0,Af 0,Vi 0,Vi 0,Vi 0,Vi 0,Vf,Vn,Vn,Vi 0,Vf,Vi 0,Vi 0,Vi 0,Vi 0,Vn,.string ⟨[].toArray⟩,Vi (-1),Vi (-1)]]) (xs:=[xb,xc]) dC rfl dC rfl) hs.f2.f2.f2 rfl fun v11 G' H' _ hR hG82 hs=>?_)
 obtain ⟨rfl,vs4,bz,cz,xd,rfl⟩:=hR
 replace hs:=hs.n rfl
 replace hl77:=hl77.mono hG82
 refine Wp 2 [0] hs rfl ?_
 obtain ⟨bs,cs,rfl,_⟩:=hs.rowForm 1 rfl dC
 refine Wu 3 [] hs rfl<|Zy hs (Fi rfl<|Wp 5 [0,0,0] hs rfl<|Zy hs (Cy (2) underlying100 sizeOf137 rfl rfl rfl oM<|Zy hs (Yf (2 * 33+32) rfl<|O_n (Kh hs.f1 sizeOf3 rfl rfl rfl oM fun _ hs=>?_))))
 replace hs:St _ _ (.row _ _ _ _ (List.set (List.flatten [[Vi 1,Vi 0,Vi 1,Vi 0,Vi 0,Vi 0,Vi 0,Vn,Vf,Vi 0,Vn,Vn,Af 0,Af 0,Af 0,Af 0,Vi 0,Vi 0,Vi 0,Vi 0,Vf,Vn,Vn,Vi 0,Vf,Vi 0,Vi 0,Vi 0,Vi 0,Vn,.string ⟨[].toArray⟩,Vi (-1),Vi (-1)],[Vi 11,Vi 0,Vi 0,Vi 0,Vi 0,Vi 2,Vi 5,Vn,Vf,Vi 0,Vn,Vn,Af 0,Af 0,Af 0,Af 0,Vi 0,Vi 0,Vi 0,Vi 0,Vf,Vn,Vn,Vi 0,Vf,Vi 0,Vi 0,Vi 0,Vi 0,Vn,.string ⟨[].toArray⟩,Vi 1,Vi (-1)],[Vi 3,Vi 1,Vi 2,Vi 3,Vi 0,Vi 0,Vi 0,.slice A77 1 c77,Vf,Vi 0,Vn,Vn,Af 0,Af 0,Af 0,Af 0,Vi 0,Vi 0,Vi 0,Vi 0,Vf,Vn,Vn,Vi 0,Vf,Vi 0,Vi 0,Vi 0,Vi 0,Vn,.string ⟨[].toArray⟩,Vi (-1),Vi (-1)],[Vi 12,Vi 0,Vi 0,Vi 0,Vi 0,Vi 0,Vi 0,Vn,Vf,Vi 0,Vn,Vn,Af 0,Af 0,Af 0,Af 0,Vi 0,Vi 0,Vi 0,Vi 0,Vf,Vn,Vn,Vi 0,Vf,Vi 0,Vi 0,Vi 0,Vi 0,Vn,.string ⟨[].toArray⟩,Vi (-1),Vi (-1)]]) (2*33+32) _)::_) _:=hs
 rw [Ka (k:=33) (css:=[[Vi 1,Vi 0,Vi 1,Vi 0,Vi 0,Vi 0,Vi 0,Vn,Vf,Vi 0,Vn,Vn,Af 0,Af 0,Af 0,Af 0,Vi 0,Vi 0,Vi 0,Vi 0,Vf,Vn,Vn,Vi 0,Vf,Vi 0,Vi 0,Vi 0,Vi 0,Vn,.string ⟨[].toArray⟩,Vi (-1),Vi (-1)],[Vi 11,Vi 0,Vi 0,Vi 0,Vi 0,Vi 2,Vi 5,Vn,Vf,Vi 0,Vn,Vn,Af 0,Af 0,Af 0,Af 0,Vi 0,Vi 0,Vi 0,Vi 0,Vf,Vn,Vn,Vi 0,Vf,Vi 0,Vi 0,Vi 0,Vi 0,Vn,.string ⟨[].toArray⟩,Vi 1,Vi (-1)],[Vi 3,Vi 1,Vi 2,Vi 3,Vi 0,Vi 0,Vi 0,.slice A77 1 c77,Vf,Vi 0,Vn,Vn,Af 0,Af 0,Af 0,Af 0,Vi 0,Vi 0,Vi 0,Vi 0,Vf,Vn,Vn,Vi 0,Vf,Vi 0,Vi 0,Vi 0,Vi 0,Vn,.string ⟨[].toArray⟩,Vi (-1),Vi (-1)],[Vi 12,Vi 0,Vi 0,Vi 0,Vi 0,Vi 0,Vi 0,Vn,Vf,Vi 0,Vn,Vn,Af 0,Af 0,Af 0,Af 0,Vi 0,Vi 0,Vi 0,Vi 0,Vf,Vn,Vn,Vi 0,Vf,Vi 0,Vi 0,Vi 0,Vi 0,Vn,.string ⟨[].toArray⟩,Vi (-1),Vi (-1)]]) (i:=2) (j:=32) (c:=[Vi 3,Vi 1,Vi 2,Vi 3,Vi 0,Vi 0,Vi 0,.slice A77 1 c77,Vf,Vi 0,Vn,Vn,Af 0,Af 0,Af 0,Af 0,Vi 0,Vi 0,Vi 0,Vi 0,Vf,Vn,Vn,Vi 0,Vf,Vi 0,Vi 0,Vi 0,Vi 0,Vn,.string ⟨[].toArray⟩,Vi (-1),Vi (-1)]) (Fg rfl) rfl dC] at hs
 refine Wp 6 [0] hs rfl<|Zy hs (Ba zeroValue137 rfl Fu rfl (cs:=[_,_,_,_,_,_,_,_,_,_,_,_,_,_,_,_,_,_,_,_,_,_,_,_,_,_,_,_,_,_,_,_,_]) rfl<|O_s (Sc (Pk (k:=3) (j:=1) (n:=4) (m:=1) (l:=[2]) (css:=[[Vi 1,Vi 0,Vi 1,Vi 0,Vi 0,Vi 0,Vi 0,Vn,Vf,Vi 0,Vn,Vn,Af 0,Af 0,Af 0,Af 0,Vi 0,Vi 0,Vi 0,Vi 0,Vf,Vn,Vn,Vi 0,Vf,Vi 0,Vi 0,Vi 0,Vi 0,Vn,.string ⟨[].toArray⟩,Vi (-1),Vi (-1)],[Vi 11,Vi 0,Vi 0,Vi 0,Vi 0,Vi 2,Vi 5,Vn,Vf,Vi 0,Vn,Vn,Af 0,Af 0,Af 0,Af 0,Vi 0,Vi 0,Vi 0,Vi 0,Vf,Vn,Vn,Vi 0,Vf,Vi 0,Vi 0,Vi 0,Vi 0,Vn,.string ⟨[].toArray⟩,Vi 1,Vi (-1)],[Vi 3,Vi 1,Vi 2,Vi 3,Vi 0,Vi 0,Vi 0,.slice A77 1 c77,Vf,Vi 0,Vn,Vn,Af 0,Af 0,Af 0,Af 0,Vi 0,Vi 0,Vi 0,Vi 0,Vf,Vn,Vn,Vi 0,Vf,Vi 0,Vi 0,Vi 0,Vi 0,Vn,.string ⟨[].toArray⟩,Vi (-1),Vi 2],[Vi 12,Vi 0,Vi 0,Vi 0,Vi 0,Vi 0,Vi 0,Vn,Vf,Vi 0,Vn,Vn,Af 0,Af 0,Af 0,Af 0,Vi 0,Vi 0,Vi 0,Vi 0,Vf,Vn,Vn,Vi 0,Vf,Vi 0,Vi 0,Vi 0,Vi 0,Vn,.string ⟨[].toArray⟩,Vi (-1),Vi (-1)]]) (xs:=[xb,xc,xd]) dC rfl rfl dC dC rfl) hs.f4.f3.f2.f3 rfl fun v12 G' H' _ hR hG96 hs=>?_))
 obtain ⟨vs5,xe,rfl⟩:=hR
 replace hs:=hs.n rfl
 replace hl77:=hl77.mono hG96
 refine Wp 5 [3,0,7,10] hs rfl<|Zy hs (Fi rfl<|Wp 1 [2] hs rfl<|O_n (Sd hs rfl rfl fun _ hs=>Wp 4 [0] hs rfl<|Zy hs (Fi rfl<|Wp 1 [3] hs rfl<|O_n (Sd hs rfl rfl fun _ hs=>?_))))
 have hs:=hs.f4.f4.f6.f5.f5.f5
 refine Cl (Ez (vs:=[]) results103 rfl trivial ?_)
 try dsimp only [tup]
 exact ⟨_,_,hs.weak hs.le (gLr _) (lSa [_,_,_,_,_,_] _),vs5,bz,cz,xb,xe,xd,A77,c77,hl77,rfl⟩
theorem Oq:places prog 145=some [(0,1),(1,1)]:=by kernel_rfl
theorem PL174:places prog 174=some [(0,2),(2,1),(3,1),(4,1),(5,1),(6,1)]:=by kernel_rfl
theorem PL177:places prog 177=some [(0,1),(1,1),(2,1),(3,1)]:=by kernel_rfl
def looM:List Bm:=[{ Bg 1 with y:=1 },{ Bg 11 with i:=2,j:=5,thn:=1 },{ Bg 3 with y:=2,z:=3,x:=1,b:=[97],els:=2 },Bg 12,{ Bg 1 with y:=1,x:=3 },Mq [120] 1]
theorem loo_acc {G:Ghost} {A77:Option Addr} {c77:Nat} (h:Cv G (.slice A77 1 c77) [97]):Gy G [[Vi 1,Vi 0,Vi 1,Vi 0,Vi 0,Vi 0,Vi 0,Vn,Vf,Vi 0,Vn,Vn,Af 0,Af 0,Af 0,Af 0,Vi 0,Vi 0,Vi 0,Vi 0,Vf,Vn,Vn,Vi 0,Vf,Vi 0,Vi 0,Vi 0,Vi 0,Vn,.string ⟨[].toArray⟩,Vi (-1),Vi (-1)],[Vi 11,Vi 0,Vi 0,Vi 0,Vi 0,Vi 2,Vi 5,Vn,Vf,Vi 0,Vn,Vn,Af 0,Af 0,Af 0,Af 0,Vi 0,Vi 0,Vi 0,Vi 0,Vf,Vn,Vn,Vi 0,Vf,Vi 0,Vi 0,Vi 0,Vi 0,Vn,.string ⟨[].toArray⟩,Vi 1,Vi (-1)],[Vi 3,Vi 1,Vi 2,Vi 3,Vi 0,Vi 0,Vi 0,.slice A77 1 c77,Vf,Vi 0,Vn,Vn,Af 0,Af 0,Af 0,Af 0,Vi 0,Vi 0,Vi 0,Vi 0,Vf,Vn,Vn,Vi 0,Vf,Vi 0,Vi 0,Vi 0,Vi 0,Vn,.string ⟨[].toArray⟩,Vi (-1),Vi 2],[Vi 12,Vi 0,Vi 0,Vi 0,Vi 0,Vi 0,Vi 0,Vn,Vf,Vi 0,Vn,Vn,Af 0,Af 0,Af 0,Af 0,Vi 0,Vi 0,Vi 0,Vi 0,Vf,Vn,Vn,Vi 0,Vf,Vi 0,Vi 0,Vi 0,Vi 0,Vn,.string ⟨[].toArray⟩,Vi (-1),Vi (-1)],[Vi 1,Vi 3,Vi 1,Vi 0,Vi 0,Vi 0,Vi 0,Vn,Vf,Vi 0,Vn,Vn,Af 0,Af 0,Af 0,Af 0,Vi 0,Vi 0,Vi 0,Vi 0,Vf,Vn,Vn,Vi 0,Vf,Vi 0,Vi 0,Vi 0,Vi 0,Vn,.string ⟨[].toArray⟩,Vi (-1),Vi (-1)],[Vi 13,Vi 1,Vi 0,Vi 0,Vi 0,Vi 0,Vi 0,Vn,Vf,Vi 0,Vn,Vn,Af 0,Af 0,Af 0,Af 0,Vi 0,Vi 0,Vi 0,Vi 0,Vf,Vn,Vn,Vi 0,Vf,Vi 0,Vi 0,Vi 0,Vi 0,Vn,.string ⟨#[120]⟩,Vi (-1),Vi (-1)]] looM :=
  ⟨⟨Gt.plain (s:={ Bg 1 with y:=1 }) rfl rfl rfl rfl rfl rfl,Gt.plain (s:={ Bg 11 with i:=2,j:=5,thn:=1 }) rfl rfl rfl rfl rfl rfl,⟨_,_,_,_,_,_,rfl,⟨h,fun e=>by cases e⟩,⟨Sl.nil _ _,fun _=>rfl⟩,⟨Sl.nil _ _,fun _=>rfl⟩,⟨Be.nil,fun _=>rfl⟩,⟨Sl.nil _ _,fun _=>rfl⟩,⟨Be.nil,fun _=>rfl⟩⟩,Gt.plain (s:=Bg 12) rfl rfl rfl rfl rfl rfl,Gt.plain (s:={ Bg 1 with y:=1,x:=3 }) rfl rfl rfl rfl rfl rfl,Gt.plain (s:=(Mq [120] 1)) rfl rfl rfl rfl rfl rfl,trivial⟩,Fg rfl⟩
theorem rloo_ok {G:Ghost} :
  Ai prog 78 [] G [] fun r G' H'=>∃ vs vb es us,r=.agg #[vs,vb]∧Gy G' es looM∧En G' us [[0,1,5],[2,4],[3]]∧H'=[.row 137 33 vs 6 es.flatten,.row 33 1 vb 3 us]:=by
 refine Ai.of_T [] func78 rfl ntmps78 sM rfl fun w0 hs =>Wt 2 [] hs rfl<|O_s (Sa hs zeroValue102 rfl fun b0 _ hs=>Wp 3 [0] hs rfl<|O_s (Se hs zeroValue3 rfl fun v1 _ hs shl=>?_))
 obtain ⟨bl2,rfl⟩:=shl
 refine O_s (Se hs zeroValue33 rfl fun v2 _ hs shl=>?_)
 obtain ⟨bl3,rfl⟩:=shl
 refine Zy hs (Ba zeroValue102 rfl PL102 rfl (cs:=[_,_]) rfl<|Zy hs (Ba zeroValue174 rfl PL174 rfl (cs:=[_,_,_,_,_,_,_]) rfl<|O_s (Sa hs zeroValue174 rfl fun b1 _ hs=>O_n (Sg hs rfl (rfl) fun _ hs=>Wp 1 [0] hs rfl ?_))))
 have hs:=hs.nilRow 137 33
 refine Wu 2 [] hs rfl<|Zy hs (Ba zeroValue177 rfl PL177 rfl (cs:=[_,_,_,_]) rfl<|O_s (Sc (rblo_ok (bb:=b1) (bv:=bl3) (cv:=1)) hs.f3.f3.f2.f3 rfl fun v3 G' H' _ hR hG7 hs=>?_))
 obtain ⟨vs5,bz,cz,xb,xe,xd,A77,c77,hl77,rfl⟩:=hR
 replace hs:=hs.n rfl
 refine Wp 3 [0] hs rfl<|O_s (Sc (jT (x:=1)) hs rfl fun v4 G' H' _ hR hG8 hs=>?_)
 obtain ⟨rfl,rfl⟩:=hR
 replace hs:=hs.n rfl
 replace hl77:=hl77.mono hG8
 refine O_s (Sc (Pk (k:=3) (j:=0) (n:=5) (m:=2) (l:=[0,1]) (css:=[[Vi 1,Vi 0,Vi 1,Vi 0,Vi 0,Vi 0,Vi 0,Vn,Vf,Vi 0,Vn,Vn,Af 0,Af 0,Af 0,Af 0,Vi 0,Vi 0,Vi 0,Vi 0,Vf,Vn,Vn,Vi 0,Vf,Vi 0,Vi 0,Vi 0,Vi 0,Vn,.string ⟨[].toArray⟩,Vi (-1),Vi (-1)],[Vi 11,Vi 0,Vi 0,Vi 0,Vi 0,Vi 2,Vi 5,Vn,Vf,Vi 0,Vn,Vn,Af 0,Af 0,Af 0,Af 0,Vi 0,Vi 0,Vi 0,Vi 0,Vf,Vn,Vn,Vi 0,Vf,Vi 0,Vi 0,Vi 0,Vi 0,Vn,.string ⟨[].toArray⟩,Vi 1,Vi (-1)],[Vi 3,Vi 1,Vi 2,Vi 3,Vi 0,Vi 0,Vi 0,.slice A77 1 c77,Vf,Vi 0,Vn,Vn,Af 0,Af 0,Af 0,Af 0,Vi 0,Vi 0,Vi 0,Vi 0,Vf,Vn,Vn,Vi 0,Vf,Vi 0,Vi 0,Vi 0,Vi 0,Vn,.string ⟨[].toArray⟩,Vi (-1),Vi 2],[Vi 12,Vi 0,Vi 0,Vi 0,Vi 0,Vi 0,Vi 0,Vn,Vf,Vi 0,Vn,Vn,Af 0,Af 0,Af 0,Af 0,Vi 0,Vi 0,Vi 0,Vi 0,Vf,Vn,Vn,Vi 0,Vf,Vi 0,Vi 0,Vi 0,Vi 0,Vn,.string ⟨[].toArray⟩,Vi (-1),Vi (-1)],[Vi 1,Vi 3,Vi 1,Vi 0,Vi 0,Vi 0,Vi 0,Vn,Vf,Vi 0,Vn,Vn,Af 0,Af 0,Af 0,Af 0,Vi 0,Vi 0,Vi 0,Vi 0,Vf,Vn,Vn,Vi 0,Vf,Vi 0,Vi 0,Vi 0,Vi 0,Vn,.string ⟨[].toArray⟩,Vi (-1),Vi (-1)]]) (xs:=[xb,xe,xd]) dC rfl rfl dC dC rfl) hs.f3.f3.f3.f3 rfl fun v5 G' H' _ hR hG9 hs=>?_)
 obtain ⟨vs6,xf,rfl⟩:=hR
 replace hs:=hs.n rfl
 replace hl77:=hl77.mono hG9
 refine Wp 5 [0,0,0] hs rfl<|O_n (Sg hs.f6 rfl (by simp only [List.all_cons,List.all_nil,hs.f6.rowOne 2 rfl,hs.f6.rowOne 3 rfl];rfl) fun _ hs=>Wp 1 [0] hs rfl<|Ah ?_)
 have hs:=hs.f4
 obtain ⟨_,hG_hf1,hf1,hs⟩:=hs.fixRow noM
 replace hl77:=hl77.mono hG_hf1
 have hs:=hs.f4
 obtain ⟨_,hG_hf2,hf2,hs⟩:=hs.fixRow noM
 replace hl77:=hl77.mono hG_hf2
 replace hf1:=hf1.mono hG_hf2
 have hs:=hs.f4
 obtain ⟨_,hG_hf3,hf3,hs⟩:=hs.fixRow noM
 replace hl77:=hl77.mono hG_hf3
 replace hf1:=hf1.mono hG_hf3
 replace hf2:=hf2.mono hG_hf3
 have hs:=hs.f3.f3
 refine Zz results78 (Rb 2 hs rfl rF) ?_
 exact ⟨_,_,hs.weak hs.le (gLr _) (lSa [_,_] _),vs6,_,[[Vi 1,Vi 0,Vi 1,Vi 0,Vi 0,Vi 0,Vi 0,Vn,Vf,Vi 0,Vn,Vn,Af 0,Af 0,Af 0,Af 0,Vi 0,Vi 0,Vi 0,Vi 0,Vf,Vn,Vn,Vi 0,Vf,Vi 0,Vi 0,Vi 0,Vi 0,Vn,.string ⟨[].toArray⟩,Vi (-1),Vi (-1)],[Vi 11,Vi 0,Vi 0,Vi 0,Vi 0,Vi 2,Vi 5,Vn,Vf,Vi 0,Vn,Vn,Af 0,Af 0,Af 0,Af 0,Vi 0,Vi 0,Vi 0,Vi 0,Vf,Vn,Vn,Vi 0,Vf,Vi 0,Vi 0,Vi 0,Vi 0,Vn,.string ⟨[].toArray⟩,Vi 1,Vi (-1)],[Vi 3,Vi 1,Vi 2,Vi 3,Vi 0,Vi 0,Vi 0,.slice A77 1 c77,Vf,Vi 0,Vn,Vn,Af 0,Af 0,Af 0,Af 0,Vi 0,Vi 0,Vi 0,Vi 0,Vf,Vn,Vn,Vi 0,Vf,Vi 0,Vi 0,Vi 0,Vi 0,Vn,.string ⟨[].toArray⟩,Vi (-1),Vi 2],[Vi 12,Vi 0,Vi 0,Vi 0,Vi 0,Vi 0,Vi 0,Vn,Vf,Vi 0,Vn,Vn,Af 0,Af 0,Af 0,Af 0,Vi 0,Vi 0,Vi 0,Vi 0,Vf,Vn,Vn,Vi 0,Vf,Vi 0,Vi 0,Vi 0,Vi 0,Vn,.string ⟨[].toArray⟩,Vi (-1),Vi (-1)],[Vi 1,Vi 3,Vi 1,Vi 0,Vi 0,Vi 0,Vi 0,Vn,Vf,Vi 0,Vn,Vn,Af 0,Af 0,Af 0,Af 0,Vi 0,Vi 0,Vi 0,Vi 0,Vf,Vn,Vn,Vi 0,Vf,Vi 0,Vi 0,Vi 0,Vi 0,Vn,.string ⟨[].toArray⟩,Vi (-1),Vi (-1)],[Vi 13,Vi 1,Vi 0,Vi 0,Vi 0,Vi 0,Vi 0,Vn,Vf,Vi 0,Vn,Vn,Af 0,Af 0,Af 0,Af 0,Vi 0,Vi 0,Vi 0,Vi 0,Vf,Vn,Vn,Vi 0,Vf,Vi 0,Vi 0,Vi 0,Vi 0,Vn,.string ⟨#[120]⟩,Vi (-1),Vi (-1)]],[xf,xe,xd],rfl,loo_acc hl77,⟨hf1,hf2,hf3,trivial⟩,rfl⟩
def Dd:Nat→By
  | 0=>⟨[Mq [120] 0],[[0]]⟩
  | 1=>⟨[{ Bg 3 with y:=1,z:=2,b:=[97],els:=1 },Mq [120] 1,Mq [121] 2,mW],[[0,1,2],[3]]⟩
  | 2=>⟨[{ Bg 3 with y:=1,z:=2,b:=[97],last:=true,els:=1 },Mq [120] 1,Mq [121] 2,mW],[[0,1,2],[3]]⟩
  | 3=>⟨[{ Bg 7 with y:=1,c1:=8589934592 },Mq [120] 1],[[0,1]]⟩
  | 4=>⟨[{ Bg 6 with y:=1,op:=⟨6,[97],[98]⟩ },Mq [120] 1],[[0,1]]⟩
  | 5=>⟨[{ Bg 6 with y:=1,op:=⟨5,[98],[]⟩ },Mq [120] 1],[[0,1]]⟩
  | 6=>⟨choM ⟨1,false,0,0,0,0,Dy rV⟩,[[0],[1],[2]]⟩
  | 7=>⟨[{ Bg 4 with y:=1,i:=0,j:=1 },Mq [120] 1],[[0,1]]⟩
  | 8=>⟨[{ Bg 4 with y:=1,i:=1,j:=-1 },Mq [120] 1],[[0,1]]⟩
  | 9=>⟨looM,[[0,1,5],[2,4],[3]]⟩
  | 10=>⟨[{ Bg 9 with p:=[⟨Dy rV,false⟩,⟨Dy Pr,false⟩],ys:=[1,2],els:=1 },Mq [120] 1,mW],[[0,1],[2]]⟩
  | 11=>⟨[{ Bg 9 with p:=[⟨Dy Pr,true⟩,⟨Dy clB,false⟩],ys:=[1,2],els:=1 },Mq [120] 1,mW],[[0,1],[2]]⟩
  | 12=>⟨choM ⟨3,false,0,0,0,2,[]⟩,[[0],[1],[2]]⟩
  | _=>⟨[{ Bg 8 with rule:=⟨16,2,11,2,false⟩,els:=1 },Mq [120] 0,mW],[[0,1],[2]]⟩
theorem tI {G:Ghost}:Ai prog 74 [Vi 1] G [] fun r _ H'=>H'=[]∧r=.agg #[Af 0,Af 8589934592,Af 0,Af 0]:=jS.mono fun r G' H' _ h=>⟨h.1,h.2.trans rfl⟩
theorem dY {G:Ghost} {u:Value} {l:List Nat} (h:Cr G u l):En G [u] [l]:=⟨h,trivial⟩
theorem Ju {G:Ghost} {v a b:Value} {x y:List Ef} {p q:Bool} (h:Sl G v 2 2 [a,.bool p,b,.bool q]) (ha:Rx G a x) (hb:Rx G b y):vS G v [⟨x,p⟩,⟨y,q⟩] :=
  Be.ofSl (cs:=[[a,.bool p],[b,.bool q]]) h rfl rfl ⟨⟨_,rfl,ha⟩,⟨_,rfl,hb⟩,trivial⟩ Z12
theorem fP {G:Ghost} {k:UInt8} :
  Ai prog 52 [.int .u8 (k.toNat:Int)] G [] fun r G' H'=>H'=[]∧∃ vs vb,r=.agg #[vs,vb]∧pM G' [vs,vb] (Dd (k.toNat % 14)):=by
 have hk:=k.toNat_lt
 refine Ai.of_T [(0,_)] func52 rfl ntmps52 sM rfl fun w0 hs =>Wt 2 [] hs rfl<|O_s (Sa hs zeroValue102 rfl fun b2 _ hs=>Wp 3 [0] hs rfl<|Zy hs (Ba zeroValue137 rfl Fu rfl (cs:=[_,_,_,_,_,_,_,_,_,_,_,_,_,_,_,_,_,_,_,_,_,_,_,_,_,_,_,_,_,_,_,_,_]) rfl<|O_s (Sa hs zeroValue137 rfl fun b3 _ hs=>O_n (Sg hs rfl (rfl) fun _ hs=>Wp 3 [0] hs rfl<|Zy hs (Ba zeroValue137 rfl Fu rfl (cs:=[_,_,_,_,_,_,_,_,_,_,_,_,_,_,_,_,_,_,_,_,_,_,_,_,_,_,_,_,_,_,_,_,_]) rfl<|O_s (Sa hs zeroValue137 rfl fun b4 _ hs=>O_n (Sg hs rfl (rfl) fun _ hs=>Wp 3 [0] hs rfl<|Zy hs (Ba zeroValue137 rfl Fu rfl (cs:=[_,_,_,_,_,_,_,_,_,_,_,_,_,_,_,_,_,_,_,_,_,_,_,_,_,_,_,_,_,_,_,_,_]) rfl<|O_s (Sa hs zeroValue137 rfl fun b5 _ hs=>O_n (Sg hs rfl (rfl) fun _ hs=>Wp 3 [0] hs rfl<|O_s (Se hs zeroValue5 rfl fun v1 _ hs _=>?_)))))))))))
 have hsN:=hs.fixRow noM
 clear hs
 obtain ⟨_,hG11,hl11,hs⟩:=hsN
 obtain ⟨A11,c11,rfl,_⟩:=id hl11
 refine Zy hs (Ba zeroValue137 rfl Fu rfl (cs:=[_,_,_,_,_,_,_,_,_,_,_,_,_,_,_,_,_,_,_,_,_,_,_,_,_,_,_,_,_,_,_,_,_]) rfl<|O_s (Sa hs zeroValue137 rfl fun b6 _ hs=>O_n (Sg hs rfl (rfl) fun _ hs=>Wp 4 [0,0] hs rfl<|O_s (Sa hs zeroValue137 rfl fun b7 _ hs=>O_n (Sg hs rfl (rfl) fun _ hs=>Wp 4 [0,8] hs rfl<|O_n (Sd hs rfl rfl fun _ hs=>Wp 5 [0] hs rfl<|Zy hs (Er (c:=((k.toNat % 14:Nat):Int)) rfl rfl oM oM oM<|Wp 4 [0] hs rfl<|Zy hs (Yc rfl (fun h18=>?_) fun h18=>?_))))))))
 ·
  refine Wp 6 [0,4] hs rfl<|O_s (Fp hs underlying100 sizeOf137 zeroValue137 kR kR kR rfl (es:=[[_,_,_,_,_,_,_,_,_,_,_,_,_,_,_,_,_,_,_,_,_,_,_,_,_,_,_,_,_,_,_,_,_]]) rfl rfl fun v2 _ hs shl=>?_)
  obtain ⟨bl20,rfl⟩:=shl
  refine O_s (Sc (Kv (b:=bl20) (n:=1) (css:=[[Vi 13,Vi 0,Vi 0,Vi 0,Vi 0,Vi 0,Vi 0,Vn,Vf,Vi 0,Vn,Vn,Af 0,Af 0,Af 0,Af 0,Vi 0,Vi 0,Vi 0,Vi 0,Vf,Vn,Vn,Vi 0,Vf,Vi 0,Vi 0,Vi 0,Vi 0,Vn,.string ⟨#[120]⟩,Vi 0,Vi 0]]) (ss:=[{ Bg 13 with name:=[120],thn:=0,els:=0 }]) rfl dC dC ⟨⟨Gt.plain (s:={ Bg 13 with name:=[120],thn:=0,els:=0 }) rfl rfl rfl rfl rfl rfl,trivial⟩,Fg rfl⟩) hs rfl fun v3 G' H' _ hR hG21 hs=>?_)
  obtain ⟨vs,vb,es,u,rfl,hE,hU,rfl⟩:=hR
  replace hs:=hs.n rfl
  refine O_n (Sg hs.f7 rfl bQ fun _ hs=>Wp 1 [1,2] hs rfl<|Ah ?_)
  have hs:=hs.f1
  obtain ⟨_,hG_hfs,hfs,hs⟩:=hs.fixRow noM
  replace hE:=hE.mono hG_hfs
  replace hU:=hU.mono hG_hfs
  have hs:=hs.f1
  obtain ⟨_,hG_hfb,hfb,hs⟩:=hs.fixRow noM
  replace hE:=hE.mono hG_hfb
  replace hU:=hU.mono hG_hfb
  replace hfs:=hfs.mono hG_hfb
  refine Zz results52 (Rb 0 hs rfl rF) ?_
  exact ⟨_,[],hs.done,rfl,vs,vb,rfl,by rw [show k.toNat % 14=0 from by omega];exact Fs (p:=Dd 0) hE (dY hU) hfs hfb rfl rfl (fun e=>by cases e) (fun e=>by cases e)⟩
 refine Wp 5 [0] hs rfl<|Zy hs (Yc rfl (fun h23=>?_) fun h23=>?_)
 ·
  refine Wp 8 [8,2,3,4,5,6,7,16,22,1,3,2] hs rfl<|O_s (Fp hs underlying100 sizeOf137 zeroValue137 kR kR kR rfl (es:=[[_,_,_,_,_,_,_,_,_,_,_,_,_,_,_,_,_,_,_,_,_,_,_,_,_,_,_,_,_,_,_,_,_],[_,_,_,_,_,_,_,_,_,_,_,_,_,_,_,_,_,_,_,_,_,_,_,_,_,_,_,_,_,_,_,_,_],[_,_,_,_,_,_,_,_,_,_,_,_,_,_,_,_,_,_,_,_,_,_,_,_,_,_,_,_,_,_,_,_,_]]) rfl rfl fun v4 _ hs shl=>?_)
  obtain ⟨bl27,rfl⟩:=shl
  refine O_s (Sc (Hk (b:=bl27) (n:=3) (css:=[[Vi 3,Vi 0,Vi 1,Vi 2,Vi 0,Vi 0,Vi 0,.slice A11 1 c11,Vf,Vi 0,Vn,Vn,Af 0,Af 0,Af 0,Af 0,Vi 0,Vi 0,Vi 0,Vi 0,Vf,Vn,Vn,Vi 0,Vf,Vi 0,Vi 0,Vi 0,Vi 0,Vn,.string ⟨[].toArray⟩,Vi 0,Vi 0],[Vi 13,Vi 1,Vi 0,Vi 0,Vi 0,Vi 0,Vi 0,Vn,Vf,Vi 0,Vn,Vn,Af 0,Af 0,Af 0,Af 0,Vi 0,Vi 0,Vi 0,Vi 0,Vf,Vn,Vn,Vi 0,Vf,Vi 0,Vi 0,Vi 0,Vi 0,Vn,.string ⟨#[120]⟩,Vi 0,Vi 0],[Vi 13,Vi 2,Vi 0,Vi 0,Vi 0,Vi 0,Vi 0,Vn,Vf,Vi 0,Vn,Vn,Af 0,Af 0,Af 0,Af 0,Vi 0,Vi 0,Vi 0,Vi 0,Vf,Vn,Vn,Vi 0,Vf,Vi 0,Vi 0,Vi 0,Vi 0,Vn,.string ⟨#[121]⟩,Vi 0,Vi 0]]) (ss:=[{ Bg 3 with y:=1,z:=2,b:=[97],thn:=0,els:=0 },{ Bg 13 with name:=[120],x:=1,thn:=0,els:=0 },{ Bg 13 with name:=[121],x:=2,thn:=0,els:=0 }]) rfl dC dC ⟨⟨⟨_,_,_,_,_,_,rfl,⟨hl11,fun e=>by cases e⟩,⟨Sl.nil _ _,fun _=>rfl⟩,⟨Sl.nil _ _,fun _=>rfl⟩,⟨Be.nil,fun _=>rfl⟩,⟨Sl.nil _ _,fun _=>rfl⟩,⟨Be.nil,fun _=>rfl⟩⟩,Gt.plain (s:={ Bg 13 with name:=[120],x:=1,thn:=0,els:=0 }) rfl rfl rfl rfl rfl rfl,Gt.plain (s:={ Bg 13 with name:=[121],x:=2,thn:=0,els:=0 }) rfl rfl rfl rfl rfl rfl,trivial⟩,Fg rfl⟩) hs rfl fun v5 G' H' _ hR hG28 hs=>?_)
  obtain ⟨vs,vb,es,us,rfl,hE,hU,rfl⟩:=hR
  replace hs:=hs.n rfl
  refine O_n (Sg hs.f7 rfl bQ fun _ hs=>Wp 1 [0] hs rfl<|Ah ?_)
  have hs:=hs.f1
  obtain ⟨_,hG_hfs,hfs,hs⟩:=hs.fixRow noM
  replace hE:=hE.mono hG_hfs
  replace hU:=hU.mono hG_hfs
  have hs:=hs.f1
  obtain ⟨_,hG_hfb,hfb,hs⟩:=hs.fixRow noM
  replace hE:=hE.mono hG_hfb
  replace hU:=hU.mono hG_hfb
  replace hfs:=hfs.mono hG_hfb
  refine Zz results52 (Rb 0 hs rfl rF) ?_
  exact ⟨_,[],hs.done,rfl,vs,vb,rfl,by rw [show k.toNat % 14=1 from by omega];exact Fs (p:=Dd 1) hE hU hfs hfb rfl rfl (fun e=>by cases e) (fun e=>by cases e)⟩
 refine Wp 5 [8,2,3,4,5,6,7,16,22] hs rfl<|Zy hs (Yc rfl (fun h30=>?_) fun h30=>?_)
 ·
  refine Wp 8 [0,0,3,2] hs rfl<|O_s (Fp hs underlying100 sizeOf137 zeroValue137 kR kR kR rfl (es:=[[_,_,_,_,_,_,_,_,_,_,_,_,_,_,_,_,_,_,_,_,_,_,_,_,_,_,_,_,_,_,_,_,_],[_,_,_,_,_,_,_,_,_,_,_,_,_,_,_,_,_,_,_,_,_,_,_,_,_,_,_,_,_,_,_,_,_],[_,_,_,_,_,_,_,_,_,_,_,_,_,_,_,_,_,_,_,_,_,_,_,_,_,_,_,_,_,_,_,_,_]]) rfl rfl fun v6 _ hs shl=>?_)
  obtain ⟨bl34,rfl⟩:=shl
  refine O_s (Sc (Hk (b:=bl34) (n:=3) (css:=[[Vi 3,Vi 0,Vi 1,Vi 2,Vi 0,Vi 0,Vi 0,.slice A11 1 c11,Vt,Vi 0,Vn,Vn,Af 0,Af 0,Af 0,Af 0,Vi 0,Vi 0,Vi 0,Vi 0,Vf,Vn,Vn,Vi 0,Vf,Vi 0,Vi 0,Vi 0,Vi 0,Vn,.string ⟨[].toArray⟩,Vi 0,Vi 0],[Vi 13,Vi 1,Vi 0,Vi 0,Vi 0,Vi 0,Vi 0,Vn,Vf,Vi 0,Vn,Vn,Af 0,Af 0,Af 0,Af 0,Vi 0,Vi 0,Vi 0,Vi 0,Vf,Vn,Vn,Vi 0,Vf,Vi 0,Vi 0,Vi 0,Vi 0,Vn,.string ⟨#[120]⟩,Vi 0,Vi 0],[Vi 13,Vi 2,Vi 0,Vi 0,Vi 0,Vi 0,Vi 0,Vn,Vf,Vi 0,Vn,Vn,Af 0,Af 0,Af 0,Af 0,Vi 0,Vi 0,Vi 0,Vi 0,Vf,Vn,Vn,Vi 0,Vf,Vi 0,Vi 0,Vi 0,Vi 0,Vn,.string ⟨#[121]⟩,Vi 0,Vi 0]]) (ss:=[{ Bg 3 with y:=1,z:=2,b:=[97],last:=true,thn:=0,els:=0 },{ Bg 13 with name:=[120],x:=1,thn:=0,els:=0 },{ Bg 13 with name:=[121],x:=2,thn:=0,els:=0 }]) rfl dC dC ⟨⟨⟨_,_,_,_,_,_,rfl,⟨hl11,fun e=>by cases e⟩,⟨Sl.nil _ _,fun _=>rfl⟩,⟨Sl.nil _ _,fun _=>rfl⟩,⟨Be.nil,fun _=>rfl⟩,⟨Sl.nil _ _,fun _=>rfl⟩,⟨Be.nil,fun _=>rfl⟩⟩,Gt.plain (s:={ Bg 13 with name:=[120],x:=1,thn:=0,els:=0 }) rfl rfl rfl rfl rfl rfl,Gt.plain (s:={ Bg 13 with name:=[121],x:=2,thn:=0,els:=0 }) rfl rfl rfl rfl rfl rfl,trivial⟩,Fg rfl⟩) hs rfl fun v7 G' H' _ hR hG35 hs=>?_)
  obtain ⟨vs,vb,es,us,rfl,hE,hU,rfl⟩:=hR
  replace hs:=hs.n rfl
  refine O_n (Sg hs.f7 rfl bQ fun _ hs=>Wp 1 [0] hs rfl<|Ah ?_)
  have hs:=hs.f1
  obtain ⟨_,hG_hfs,hfs,hs⟩:=hs.fixRow noM
  replace hE:=hE.mono hG_hfs
  replace hU:=hU.mono hG_hfs
  have hs:=hs.f1
  obtain ⟨_,hG_hfb,hfb,hs⟩:=hs.fixRow noM
  replace hE:=hE.mono hG_hfb
  replace hU:=hU.mono hG_hfb
  replace hfs:=hfs.mono hG_hfb
  refine Zz results52 (Rb 0 hs rfl rF) ?_
  exact ⟨_,[],hs.done,rfl,vs,vb,rfl,by rw [show k.toNat % 14=2 from by omega];exact Fs (p:=Dd 2) hE hU hfs hfb rfl rfl (fun e=>by cases e) (fun e=>by cases e)⟩
 refine Wp 5 [0] hs rfl<|Zy hs (Yc rfl (fun h37=>?_) fun h37=>?_)
 ·
  refine Wp 4 [0] hs rfl<|Bc [0,1,2,3] hs kR ?_
  replace hs:=hs.drew
  refine Xr [2] [3] hs rfl ?_
  have hle:=hs.le
  refine Xo 0 rfl (Sc (tI) hs rfl fun v8 G' H' _ hR hG38 hs=>?_)
  obtain ⟨rfl,rfl⟩:=hR
  replace hs:=hs.n rfl
  refine Am hs hle hG38 (lSr _)<|Xt 1 hs rfl (Ba zeroValue137 rfl Fu rfl (cs:=[_,_,_,_,_,_,_,_,_,_,_,_,_,_,_,_,_,_,_,_,_,_,_,_,_,_,_,_,_,_,_,_,_]) rfl ?_)
  have hle:=hs.le
  refine Xo 3 rfl (Fp hs underlying100 sizeOf137 zeroValue137 kR kR kR rfl (es:=[[_,_,_,_,_,_,_,_,_,_,_,_,_,_,_,_,_,_,_,_,_,_,_,_,_,_,_,_,_,_,_,_,_],[_,_,_,_,_,_,_,_,_,_,_,_,_,_,_,_,_,_,_,_,_,_,_,_,_,_,_,_,_,_,_,_,_]]) rfl rfl fun v9 _ hs shl=>?_)
  obtain ⟨bl41,rfl⟩:=shl
  refine Am hs hle (gLr _) (List.sublist_cons_self _ _)<|Xa 4 rfl (Sc (Kv (b:=bl41) (n:=2) (css:=[[Vi 7,Vi 0,Vi 1,Vi 0,Vi 0,Vi 0,Vi 0,Vn,Vf,Vi 0,Vn,Vn,Af 0,Af 8589934592,Af 0,Af 0,Vi 0,Vi 0,Vi 0,Vi 0,Vf,Vn,Vn,Vi 0,Vf,Vi 0,Vi 0,Vi 0,Vi 0,Vn,.string ⟨[].toArray⟩,Vi 0,Vi 0],[Vi 13,Vi 1,Vi 0,Vi 0,Vi 0,Vi 0,Vi 0,Vn,Vf,Vi 0,Vn,Vn,Af 0,Af 0,Af 0,Af 0,Vi 0,Vi 0,Vi 0,Vi 0,Vf,Vn,Vn,Vi 0,Vf,Vi 0,Vi 0,Vi 0,Vi 0,Vn,.string ⟨#[120]⟩,Vi 0,Vi 0]]) (ss:=[{ Bg 7 with y:=1,c1:=8589934592,thn:=0,els:=0 },{ Bg 13 with name:=[120],x:=1,thn:=0,els:=0 }]) rfl dC dC ⟨⟨Gt.plain (s:={ Bg 7 with y:=1,c1:=8589934592,thn:=0,els:=0 }) rfl rfl rfl rfl rfl rfl,Gt.plain (s:={ Bg 13 with name:=[120],x:=1,thn:=0,els:=0 }) rfl rfl rfl rfl rfl rfl,trivial⟩,Fg rfl⟩) hs rfl fun v10 G' H' _ hR hG42 hs=>?_)
  obtain ⟨vs,vb,es,u,rfl,hE,hU,rfl⟩:=hR
  replace hs:=hs.n rfl
  refine Xn 5 rfl (Sg hs.f7 rfl bQ fun _ hs=>Xe (Zk [2] rfl<|Ah ?_))
  have hs:=hs.f1
  obtain ⟨_,hG_hfs,hfs,hs⟩:=hs.fixRow noM
  replace hE:=hE.mono hG_hfs
  replace hU:=hU.mono hG_hfs
  have hs:=hs.f1
  obtain ⟨_,hG_hfb,hfb,hs⟩:=hs.fixRow noM
  replace hE:=hE.mono hG_hfb
  replace hU:=hU.mono hG_hfb
  replace hfs:=hfs.mono hG_hfb
  refine Zz results52 (Rb 0 hs rfl rF) ?_
  exact ⟨_,[],hs.done,rfl,vs,vb,rfl,by rw [show k.toNat % 14=3 from by omega];exact Fs (p:=Dd 3) hE (dY hU) hfs hfb rfl rfl (fun e=>by cases e) (fun e=>by cases e)⟩
 refine Wp 5 [0] hs rfl<|Zy hs (Yc rfl (fun h44=>?_) fun h44=>?_)
 ·
  refine Wp 4 [0] hs rfl<|Bc [0,1,2,3] hs kR ?_
  replace hs:=hs.drew
  refine Xr [2] [3] hs rfl ?_
  have hle:=hs.le
  refine Xo 0 rfl (Sc (rop2_ok) hs rfl fun v11 G' H' _ hR hG45 hs=>?_)
  obtain ⟨rfl,A45,c45,B45,d45,rfl,h45,g45⟩:=hR
  replace hs:=hs.n rfl
  refine Am hs hle hG45 (lSr _)<|Xt 1 hs rfl (Ba zeroValue137 rfl Fu rfl (cs:=[_,_,_,_,_,_,_,_,_,_,_,_,_,_,_,_,_,_,_,_,_,_,_,_,_,_,_,_,_,_,_,_,_]) rfl ?_)
  have hle:=hs.le
  refine Xo 3 rfl (Fp hs underlying100 sizeOf137 zeroValue137 kR kR kR rfl (es:=[[_,_,_,_,_,_,_,_,_,_,_,_,_,_,_,_,_,_,_,_,_,_,_,_,_,_,_,_,_,_,_,_,_],[_,_,_,_,_,_,_,_,_,_,_,_,_,_,_,_,_,_,_,_,_,_,_,_,_,_,_,_,_,_,_,_,_]]) rfl rfl fun v12 _ hs shl=>?_)
  obtain ⟨bl48,rfl⟩:=shl
  refine Am hs hle (gLr _) (List.sublist_cons_self _ _)<|Xa 4 rfl (Sc (Kv (b:=bl48) (n:=2) (css:=[[Vi 6,Vi 0,Vi 1,Vi 0,Vi 0,Vi 0,Vi 0,Vn,Vf,Vi 6,.slice A45 1 c45,.slice B45 1 d45,Af 0,Af 0,Af 0,Af 0,Vi 0,Vi 0,Vi 0,Vi 0,Vf,Vn,Vn,Vi 0,Vf,Vi 0,Vi 0,Vi 0,Vi 0,Vn,.string ⟨[].toArray⟩,Vi 0,Vi 0],[Vi 13,Vi 1,Vi 0,Vi 0,Vi 0,Vi 0,Vi 0,Vn,Vf,Vi 0,Vn,Vn,Af 0,Af 0,Af 0,Af 0,Vi 0,Vi 0,Vi 0,Vi 0,Vf,Vn,Vn,Vi 0,Vf,Vi 0,Vi 0,Vi 0,Vi 0,Vn,.string ⟨#[120]⟩,Vi 0,Vi 0]]) (ss:=[{ Bg 6 with y:=1,op:=⟨6,[97],[98]⟩,thn:=0,els:=0 },{ Bg 13 with name:=[120],x:=1,thn:=0,els:=0 }]) rfl dC dC ⟨⟨⟨_,_,_,_,_,_,rfl,⟨Sl.nil _ _,fun _=>rfl⟩,⟨h45,fun e=>by cases e⟩,⟨g45,fun e=>by cases e⟩,⟨Be.nil,fun _=>rfl⟩,⟨Sl.nil _ _,fun _=>rfl⟩,⟨Be.nil,fun _=>rfl⟩⟩,Gt.plain (s:={ Bg 13 with name:=[120],x:=1,thn:=0,els:=0 }) rfl rfl rfl rfl rfl rfl,trivial⟩,Fg rfl⟩) hs rfl fun v13 G' H' _ hR hG49 hs=>?_)
  obtain ⟨vs,vb,es,u,rfl,hE,hU,rfl⟩:=hR
  replace hs:=hs.n rfl
  refine Xn 5 rfl (Sg hs.f7 rfl bQ fun _ hs=>Xe (Zk [2] rfl<|Ah ?_))
  have hs:=hs.f1
  obtain ⟨_,hG_hfs,hfs,hs⟩:=hs.fixRow noM
  replace hE:=hE.mono hG_hfs
  replace hU:=hU.mono hG_hfs
  have hs:=hs.f1
  obtain ⟨_,hG_hfb,hfb,hs⟩:=hs.fixRow noM
  replace hE:=hE.mono hG_hfb
  replace hU:=hU.mono hG_hfb
  replace hfs:=hfs.mono hG_hfb
  refine Zz results52 (Rb 0 hs rfl rF) ?_
  exact ⟨_,[],hs.done,rfl,vs,vb,rfl,by rw [show k.toNat % 14=4 from by omega];exact Fs (p:=Dd 4) hE (dY hU) hfs hfb rfl rfl (fun e=>by cases e) (fun e=>by cases e)⟩
 refine Wp 5 [0] hs rfl<|Zy hs (Yc rfl (fun h51=>?_) fun h51=>?_)
 ·
  refine Wp 4 [0] hs rfl<|Bc [0,1,2,3] hs kR ?_
  replace hs:=hs.drew
  refine Xr [2] [3] hs rfl ?_
  have hle:=hs.le
  refine Xo 0 rfl (Sc (rop3_ok) hs rfl fun v14 G' H' _ hR hG52 hs=>?_)
  obtain ⟨rfl,A52,c52,rfl,h52⟩:=hR
  replace hs:=hs.n rfl
  refine Am hs hle hG52 (lSr _)<|Xt 1 hs rfl (Ba zeroValue137 rfl Fu rfl (cs:=[_,_,_,_,_,_,_,_,_,_,_,_,_,_,_,_,_,_,_,_,_,_,_,_,_,_,_,_,_,_,_,_,_]) rfl ?_)
  have hle:=hs.le
  refine Xo 3 rfl (Fp hs underlying100 sizeOf137 zeroValue137 kR kR kR rfl (es:=[[_,_,_,_,_,_,_,_,_,_,_,_,_,_,_,_,_,_,_,_,_,_,_,_,_,_,_,_,_,_,_,_,_],[_,_,_,_,_,_,_,_,_,_,_,_,_,_,_,_,_,_,_,_,_,_,_,_,_,_,_,_,_,_,_,_,_]]) rfl rfl fun v15 _ hs shl=>?_)
  obtain ⟨bl55,rfl⟩:=shl
  refine Am hs hle (gLr _) (List.sublist_cons_self _ _)<|Xa 4 rfl (Sc (Kv (b:=bl55) (n:=2) (css:=[[Vi 6,Vi 0,Vi 1,Vi 0,Vi 0,Vi 0,Vi 0,Vn,Vf,Vi 5,.slice A52 1 c52,Vn,Af 0,Af 0,Af 0,Af 0,Vi 0,Vi 0,Vi 0,Vi 0,Vf,Vn,Vn,Vi 0,Vf,Vi 0,Vi 0,Vi 0,Vi 0,Vn,.string ⟨[].toArray⟩,Vi 0,Vi 0],[Vi 13,Vi 1,Vi 0,Vi 0,Vi 0,Vi 0,Vi 0,Vn,Vf,Vi 0,Vn,Vn,Af 0,Af 0,Af 0,Af 0,Vi 0,Vi 0,Vi 0,Vi 0,Vf,Vn,Vn,Vi 0,Vf,Vi 0,Vi 0,Vi 0,Vi 0,Vn,.string ⟨#[120]⟩,Vi 0,Vi 0]]) (ss:=[{ Bg 6 with y:=1,op:=⟨5,[98],[]⟩,thn:=0,els:=0 },{ Bg 13 with name:=[120],x:=1,thn:=0,els:=0 }]) rfl dC dC ⟨⟨⟨_,_,_,_,_,_,rfl,⟨Sl.nil _ _,fun _=>rfl⟩,⟨h52,fun e=>by cases e⟩,⟨Sl.nil _ _,fun _=>rfl⟩,⟨Be.nil,fun _=>rfl⟩,⟨Sl.nil _ _,fun _=>rfl⟩,⟨Be.nil,fun _=>rfl⟩⟩,Gt.plain (s:={ Bg 13 with name:=[120],x:=1,thn:=0,els:=0 }) rfl rfl rfl rfl rfl rfl,trivial⟩,Fg rfl⟩) hs rfl fun v16 G' H' _ hR hG56 hs=>?_)
  obtain ⟨vs,vb,es,u,rfl,hE,hU,rfl⟩:=hR
  replace hs:=hs.n rfl
  refine Xn 5 rfl (Sg hs.f7 rfl bQ fun _ hs=>Xe (Zk [2] rfl<|Ah ?_))
  have hs:=hs.f1
  obtain ⟨_,hG_hfs,hfs,hs⟩:=hs.fixRow noM
  replace hE:=hE.mono hG_hfs
  replace hU:=hU.mono hG_hfs
  have hs:=hs.f1
  obtain ⟨_,hG_hfb,hfb,hs⟩:=hs.fixRow noM
  replace hE:=hE.mono hG_hfb
  replace hU:=hU.mono hG_hfb
  replace hfs:=hfs.mono hG_hfb
  refine Zz results52 (Rb 0 hs rfl rF) ?_
  exact ⟨_,[],hs.done,rfl,vs,vb,rfl,by rw [show k.toNat % 14=5 from by omega];exact Fs (p:=Dd 5) hE (dY hU) hfs hfb rfl rfl (fun e=>by cases e) (fun e=>by cases e)⟩
 refine Wp 5 [0] hs rfl<|Zy hs (Yc rfl (fun h58=>?_) fun h58=>?_)
 ·
  refine Wp 5 [0] hs rfl<|O_s (Sc (fN) hs rfl fun v17 G' H' _ hR hG59 hs=>?_)
  obtain ⟨rfl,h59⟩:=hR
  replace hs:=hs.n rfl
  obtain ⟨A59,c59,rfl⟩:=Be.slice h59
  refine Zy hs (Ba zeroValue135 rfl xB rfl (cs:=[_,_,_,_,_,_,_]) rfl<|O_s (Sc (pV (cd:=⟨1,false,0,0,0,0,Dy rV⟩) (Ar:=A59) (kr:=c59) h59 (fun e=>by cases e)) hs rfl fun v18 G' H' _ hR hG61 hs=>?_))
  obtain ⟨vs,vb,es,us,rfl,hE,hU,rfl⟩:=hR
  replace hs:=hs.n rfl
  refine O_n (Sg hs.f7 rfl bQ fun _ hs=>Wp 1 [0] hs rfl<|Ah ?_)
  have hs:=hs.f1
  obtain ⟨_,hG_hfs,hfs,hs⟩:=hs.fixRow noM
  replace hE:=hE.mono hG_hfs
  replace hU:=hU.mono hG_hfs
  have hs:=hs.f1
  obtain ⟨_,hG_hfb,hfb,hs⟩:=hs.fixRow noM
  replace hE:=hE.mono hG_hfb
  replace hU:=hU.mono hG_hfb
  replace hfs:=hfs.mono hG_hfb
  refine Zz results52 (Rb 0 hs rfl rF) ?_
  exact ⟨_,[],hs.done,rfl,vs,vb,rfl,by rw [show k.toNat % 14=6 from by omega];exact Fs (p:=Dd 6) hE hU hfs hfb rfl rfl (fun e=>by cases e) (fun e=>by cases e)⟩
 refine Wp 5 [0] hs rfl<|Zy hs (Yc rfl (fun h63=>?_) fun h63=>?_)
 ·
  refine Wp 5 [0] hs rfl<|Zy hs (Ba zeroValue137 rfl Fu rfl (cs:=[_,_,_,_,_,_,_,_,_,_,_,_,_,_,_,_,_,_,_,_,_,_,_,_,_,_,_,_,_,_,_,_,_]) rfl<|Wp 1 [3] hs rfl<|O_s (Fp hs underlying100 sizeOf137 zeroValue137 kR kR kR rfl (es:=[[_,_,_,_,_,_,_,_,_,_,_,_,_,_,_,_,_,_,_,_,_,_,_,_,_,_,_,_,_,_,_,_,_],[_,_,_,_,_,_,_,_,_,_,_,_,_,_,_,_,_,_,_,_,_,_,_,_,_,_,_,_,_,_,_,_,_]]) rfl rfl fun v19 _ hs shl=>?_))
  obtain ⟨bl66,rfl⟩:=shl
  refine O_s (Sc (Kv (b:=bl66) (n:=2) (css:=[[Vi 4,Vi 0,Vi 1,Vi 0,Vi 0,Vi 0,Vi 1,Vn,Vf,Vi 0,Vn,Vn,Af 0,Af 0,Af 0,Af 0,Vi 0,Vi 0,Vi 0,Vi 0,Vf,Vn,Vn,Vi 0,Vf,Vi 0,Vi 0,Vi 0,Vi 0,Vn,.string ⟨[].toArray⟩,Vi 0,Vi 0],[Vi 13,Vi 1,Vi 0,Vi 0,Vi 0,Vi 0,Vi 0,Vn,Vf,Vi 0,Vn,Vn,Af 0,Af 0,Af 0,Af 0,Vi 0,Vi 0,Vi 0,Vi 0,Vf,Vn,Vn,Vi 0,Vf,Vi 0,Vi 0,Vi 0,Vi 0,Vn,.string ⟨#[120]⟩,Vi 0,Vi 0]]) (ss:=[{ Bg 4 with y:=1,i:=0,j:=1,thn:=0,els:=0 },{ Bg 13 with name:=[120],x:=1,thn:=0,els:=0 }]) rfl dC dC ⟨⟨Gt.plain (s:={ Bg 4 with y:=1,i:=0,j:=1,thn:=0,els:=0 }) rfl rfl rfl rfl rfl rfl,Gt.plain (s:={ Bg 13 with name:=[120],x:=1,thn:=0,els:=0 }) rfl rfl rfl rfl rfl rfl,trivial⟩,Fg rfl⟩) hs rfl fun v20 G' H' _ hR hG67 hs=>?_)
  obtain ⟨vs,vb,es,u,rfl,hE,hU,rfl⟩:=hR
  replace hs:=hs.n rfl
  refine O_n (Sg hs.f7 rfl bQ fun _ hs=>Wp 1 [0] hs rfl<|Ah ?_)
  have hs:=hs.f1
  obtain ⟨_,hG_hfs,hfs,hs⟩:=hs.fixRow noM
  replace hE:=hE.mono hG_hfs
  replace hU:=hU.mono hG_hfs
  have hs:=hs.f1
  obtain ⟨_,hG_hfb,hfb,hs⟩:=hs.fixRow noM
  replace hE:=hE.mono hG_hfb
  replace hU:=hU.mono hG_hfb
  replace hfs:=hfs.mono hG_hfb
  refine Zz results52 (Rb 0 hs rfl rF) ?_
  exact ⟨_,[],hs.done,rfl,vs,vb,rfl,by rw [show k.toNat % 14=7 from by omega];exact Fs (p:=Dd 7) hE (dY hU) hfs hfb rfl rfl (fun e=>by cases e) (fun e=>by cases e)⟩
 refine Wp 5 [0] hs rfl<|Zy hs (Yc rfl (fun h69=>?_) fun h69=>?_)
 ·
  refine Wp 5 [0] hs rfl<|Zy hs (Ba zeroValue137 rfl Fu rfl (cs:=[_,_,_,_,_,_,_,_,_,_,_,_,_,_,_,_,_,_,_,_,_,_,_,_,_,_,_,_,_,_,_,_,_]) rfl<|Wp 1 [3] hs rfl<|O_s (Fp hs underlying100 sizeOf137 zeroValue137 kR kR kR rfl (es:=[[_,_,_,_,_,_,_,_,_,_,_,_,_,_,_,_,_,_,_,_,_,_,_,_,_,_,_,_,_,_,_,_,_],[_,_,_,_,_,_,_,_,_,_,_,_,_,_,_,_,_,_,_,_,_,_,_,_,_,_,_,_,_,_,_,_,_]]) rfl rfl fun v21 _ hs shl=>?_))
  obtain ⟨bl72,rfl⟩:=shl
  refine O_s (Sc (Kv (b:=bl72) (n:=2) (css:=[[Vi 4,Vi 0,Vi 1,Vi 0,Vi 0,Vi 1,Vi (-1),Vn,Vf,Vi 0,Vn,Vn,Af 0,Af 0,Af 0,Af 0,Vi 0,Vi 0,Vi 0,Vi 0,Vf,Vn,Vn,Vi 0,Vf,Vi 0,Vi 0,Vi 0,Vi 0,Vn,.string ⟨[].toArray⟩,Vi 0,Vi 0],[Vi 13,Vi 1,Vi 0,Vi 0,Vi 0,Vi 0,Vi 0,Vn,Vf,Vi 0,Vn,Vn,Af 0,Af 0,Af 0,Af 0,Vi 0,Vi 0,Vi 0,Vi 0,Vf,Vn,Vn,Vi 0,Vf,Vi 0,Vi 0,Vi 0,Vi 0,Vn,.string ⟨#[120]⟩,Vi 0,Vi 0]]) (ss:=[{ Bg 4 with y:=1,i:=1,j:=-1,thn:=0,els:=0 },{ Bg 13 with name:=[120],x:=1,thn:=0,els:=0 }]) rfl dC dC ⟨⟨Gt.plain (s:={ Bg 4 with y:=1,i:=1,j:=-1,thn:=0,els:=0 }) rfl rfl rfl rfl rfl rfl,Gt.plain (s:={ Bg 13 with name:=[120],x:=1,thn:=0,els:=0 }) rfl rfl rfl rfl rfl rfl,trivial⟩,Fg rfl⟩) hs rfl fun v22 G' H' _ hR hG73 hs=>?_)
  obtain ⟨vs,vb,es,u,rfl,hE,hU,rfl⟩:=hR
  replace hs:=hs.n rfl
  refine O_n (Sg hs.f7 rfl bQ fun _ hs=>Wp 1 [1,2] hs rfl<|Ah ?_)
  have hs:=hs.f1
  obtain ⟨_,hG_hfs,hfs,hs⟩:=hs.fixRow noM
  replace hE:=hE.mono hG_hfs
  replace hU:=hU.mono hG_hfs
  have hs:=hs.f1
  obtain ⟨_,hG_hfb,hfb,hs⟩:=hs.fixRow noM
  replace hE:=hE.mono hG_hfb
  replace hU:=hU.mono hG_hfb
  replace hfs:=hfs.mono hG_hfb
  refine Zz results52 (Rb 0 hs rfl rF) ?_
  exact ⟨_,[],hs.done,rfl,vs,vb,rfl,by rw [show k.toNat % 14=8 from by omega];exact Fs (p:=Dd 8) hE (dY hU) hfs hfb rfl rfl (fun e=>by cases e) (fun e=>by cases e)⟩
 refine Wp 5 [0] hs rfl<|Zy hs (Yc rfl (fun h75=>?_) fun h75=>?_)
 ·
  refine Wp 5 [0] hs rfl<|O_s (Sc (rloo_ok) hs rfl fun v23 G' H' _ hR hG76 hs=>?_)
  obtain ⟨vs,vb,es,us,rfl,hE,hU,rfl⟩:=hR
  replace hs:=hs.n rfl
  refine O_n (Sg hs.f7 rfl bQ fun _ hs=>Wp 1 [1,2] hs rfl<|Ah ?_)
  have hs:=hs.f1
  obtain ⟨_,hG_hfs,hfs,hs⟩:=hs.fixRow noM
  replace hE:=hE.mono hG_hfs
  replace hU:=hU.mono hG_hfs
  have hs:=hs.f1
  obtain ⟨_,hG_hfb,hfb,hs⟩:=hs.fixRow noM
  replace hE:=hE.mono hG_hfb
  replace hU:=hU.mono hG_hfb
  replace hfs:=hfs.mono hG_hfb
  refine Zz results52 (Rb 0 hs rfl rF) ?_
  exact ⟨_,[],hs.done,rfl,vs,vb,rfl,by rw [show k.toNat % 14=9 from by omega];exact Fs (p:=Dd 9) hE hU hfs hfb rfl rfl (fun e=>by cases e) (fun e=>by cases e)⟩
 refine Wp 5 [0] hs rfl<|Zy hs (Yc rfl (fun h78=>?_) fun h78=>?_)
 ·
  refine Wp 4 [5,2,3,4,16,77] hs rfl<|Bc [0,1,2,3,4,5,6,7,8] hs kR ?_
  replace hs:=hs.drew
  refine Xr [7] [3] hs rfl<|Kq 0 5 rfl rfl kR rfl rfl ?_ ?_
  ·
   have hle:=hs.le
   refine Et (H1:=[]) hs rfl func77 rfl kR (fN) fun v24 G' H' _ hR hG79 hs=>?_
   obtain ⟨rfl,h79⟩:=hR
   replace hs:=hs.n rfl
   obtain ⟨A79,c79,rfl⟩:=Be.slice h79
   refine Am hs hle hG79 (lSr _)<|Xt 1 hs rfl (Ba zeroValue145 rfl Oq rfl (cs:=[_,_]) rfl<|Kq 2 5 rfl rfl kR rfl rfl ?_ ?_)
   ·
    have hle:=hs.le
    refine Et (H1:=[]) hs rfl func79 rfl kR (Tg) fun v25 G' H' _ hR hG81 hs=>?_
    obtain ⟨rfl,h81⟩:=hR
    replace hs:=hs.n rfl
    replace h79:=h79.mono hG81
    obtain ⟨A81,c81,rfl⟩:=Be.slice h81
    refine Am hs hle hG81 (lSr _)<|Xt 3 hs rfl (Ba zeroValue145 rfl Oq rfl (cs:=[_,_]) rfl<|Kq 4 5 rfl rfl kR rfl rfl ?_ ?_)
    ·
     have hle:=hs.le
     refine Ca hs underlying131 sizeOf145 zeroValue145 rfl rfl dC dC rfl (cs:=[_,_,_,_]) rfl rfl fun v26 _ hs _=>?_
     have hsN:=hs.fixRow noM
     clear hs
     obtain ⟨_,hG83,hl83,hs⟩:=hsN
     replace h79:=h79.mono hG83
     replace h81:=h81.mono hG83
     obtain ⟨A83,c83,rfl,_⟩:=id hl83
     refine Am hs hle hG83 (lSr _) ?_
     have hle:=hs.le
     refine Xo 5 rfl (Se hs zeroValue3 rfl fun v27 _ hs _=>?_)
     have hsN:=hs.fixRow noM
     clear hs
     obtain ⟨_,hG84,hl84,hs⟩:=hsN
     replace h79:=h79.mono hG84
     replace h81:=h81.mono hG84
     replace hl83:=hl83.mono hG84
     obtain ⟨A84,c84,rfl,_⟩:=id hl84
     refine Am hs hle hG84 (lSr _)<|Xt 6 hs rfl (Ba zeroValue137 rfl Fu rfl (cs:=[_,_,_,_,_,_,_,_,_,_,_,_,_,_,_,_,_,_,_,_,_,_,_,_,_,_,_,_,_,_,_,_,_]) rfl ?_)
     have hle:=hs.le
     refine Xo 8 rfl (Fp hs underlying100 sizeOf137 zeroValue137 kR kR kR rfl (es:=[[_,_,_,_,_,_,_,_,_,_,_,_,_,_,_,_,_,_,_,_,_,_,_,_,_,_,_,_,_,_,_,_,_],[_,_,_,_,_,_,_,_,_,_,_,_,_,_,_,_,_,_,_,_,_,_,_,_,_,_,_,_,_,_,_,_,_]]) rfl rfl fun v28 _ hs shl=>?_)
     obtain ⟨bl87,rfl⟩:=shl
     refine Am hs hle (gLr _) (List.sublist_cons_self _ _)<|Xa 9 rfl (Sc (Hk (b:=bl87) (n:=2) (css:=[[Vi 9,Vi 0,Vi 0,Vi 0,Vi 0,Vi 0,Vi 0,Vn,Vf,Vi 0,Vn,Vn,Af 0,Af 0,Af 0,Af 0,Vi 0,Vi 0,Vi 0,Vi 0,Vf,.slice A83 2 c83,.slice A84 2 c84,Vi 0,Vf,Vi 0,Vi 0,Vi 0,Vi 0,Vn,.string ⟨[].toArray⟩,Vi 0,Vi 0],[Vi 13,Vi 1,Vi 0,Vi 0,Vi 0,Vi 0,Vi 0,Vn,Vf,Vi 0,Vn,Vn,Af 0,Af 0,Af 0,Af 0,Vi 0,Vi 0,Vi 0,Vi 0,Vf,Vn,Vn,Vi 0,Vf,Vi 0,Vi 0,Vi 0,Vi 0,Vn,.string ⟨#[120]⟩,Vi 0,Vi 0]]) (ss:=[{ Bg 9 with p:=[⟨Dy rV,false⟩,⟨Dy Pr,false⟩],ys:=[1,2],thn:=0,els:=0 },{ Bg 13 with name:=[120],x:=1,thn:=0,els:=0 }]) rfl dC dC ⟨⟨⟨_,_,_,_,_,_,rfl,⟨Sl.nil _ _,fun _=>rfl⟩,⟨Sl.nil _ _,fun _=>rfl⟩,⟨Sl.nil _ _,fun _=>rfl⟩,⟨Ju hl83 h79 h81,fun e=>by cases e⟩,⟨hl84,fun e=>by cases e⟩,⟨Be.nil,fun _=>rfl⟩⟩,Gt.plain (s:={ Bg 13 with name:=[120],x:=1,thn:=0,els:=0 }) rfl rfl rfl rfl rfl rfl,trivial⟩,Fg rfl⟩) hs rfl fun v29 G' H' _ hR hG88 hs=>?_)
     obtain ⟨vs,vb,es,us,rfl,hE,hU,rfl⟩:=hR
     replace hs:=hs.n rfl
     refine Xn 10 rfl (Sg hs.f7 rfl bQ fun _ hs=>Xe (Zk [2] rfl<|Ah ?_))
     have hs:=hs.f1
     obtain ⟨_,hG_hfs,hfs,hs⟩:=hs.fixRow noM
     replace hE:=hE.mono hG_hfs
     replace hU:=hU.mono hG_hfs
     have hs:=hs.f1
     obtain ⟨_,hG_hfb,hfb,hs⟩:=hs.fixRow noM
     replace hE:=hE.mono hG_hfb
     replace hU:=hU.mono hG_hfb
     replace hfs:=hfs.mono hG_hfb
     refine Zz results52 (Rb 0 hs rfl rF) ?_
     exact ⟨_,[],hs.done,rfl,vs,vb,rfl,by rw [show k.toNat % 14=10 from by omega];exact Fs (p:=Dd 10) hE hU hfs hfb rfl rfl (fun e=>by cases e) (fun e=>by cases e)⟩
    have hle:=hs.le
    refine Ca hs underlying33 sizeOf3 zeroValue3 rfl rfl dC dC rfl (cs:=[_,_]) rfl rfl fun v30 _ hs _=>?_
    have hsN:=hs.fixRow noM
    clear hs
    obtain ⟨_,hG84,hl84,hs⟩:=hsN
    replace h79:=h79.mono hG84
    replace h81:=h81.mono hG84
    obtain ⟨A84,c84,rfl,_⟩:=id hl84
    refine Am hs hle hG84 (lSr _) ?_
    have hle:=hs.le
    refine Xo 4 rfl (Se hs zeroValue145 rfl fun v31 _ hs _=>?_)
    have hsN:=hs.fixRow noM
    clear hs
    obtain ⟨_,hG83,hl83,hs⟩:=hsN
    replace h79:=h79.mono hG83
    replace h81:=h81.mono hG83
    replace hl84:=hl84.mono hG83
    obtain ⟨A83,c83,rfl,_⟩:=id hl83
    refine Am hs hle hG83 (lSr _)<|Xt 6 hs rfl (Ba zeroValue137 rfl Fu rfl (cs:=[_,_,_,_,_,_,_,_,_,_,_,_,_,_,_,_,_,_,_,_,_,_,_,_,_,_,_,_,_,_,_,_,_]) rfl ?_)
    have hle:=hs.le
    refine Xo 8 rfl (Fp hs underlying100 sizeOf137 zeroValue137 kR kR kR rfl (es:=[[_,_,_,_,_,_,_,_,_,_,_,_,_,_,_,_,_,_,_,_,_,_,_,_,_,_,_,_,_,_,_,_,_],[_,_,_,_,_,_,_,_,_,_,_,_,_,_,_,_,_,_,_,_,_,_,_,_,_,_,_,_,_,_,_,_,_]]) rfl rfl fun v32 _ hs shl=>?_)
    obtain ⟨bl87,rfl⟩:=shl
    refine Am hs hle (gLr _) (List.sublist_cons_self _ _)<|Xa 9 rfl (Sc (Hk (b:=bl87) (n:=2) (css:=[[Vi 9,Vi 0,Vi 0,Vi 0,Vi 0,Vi 0,Vi 0,Vn,Vf,Vi 0,Vn,Vn,Af 0,Af 0,Af 0,Af 0,Vi 0,Vi 0,Vi 0,Vi 0,Vf,.slice A83 2 c83,.slice A84 2 c84,Vi 0,Vf,Vi 0,Vi 0,Vi 0,Vi 0,Vn,.string ⟨[].toArray⟩,Vi 0,Vi 0],[Vi 13,Vi 1,Vi 0,Vi 0,Vi 0,Vi 0,Vi 0,Vn,Vf,Vi 0,Vn,Vn,Af 0,Af 0,Af 0,Af 0,Vi 0,Vi 0,Vi 0,Vi 0,Vf,Vn,Vn,Vi 0,Vf,Vi 0,Vi 0,Vi 0,Vi 0,Vn,.string ⟨#[120]⟩,Vi 0,Vi 0]]) (ss:=[{ Bg 9 with p:=[⟨Dy rV,false⟩,⟨Dy Pr,false⟩],ys:=[1,2],thn:=0,els:=0 },{ Bg 13 with name:=[120],x:=1,thn:=0,els:=0 }]) rfl dC dC ⟨⟨⟨_,_,_,_,_,_,rfl,⟨Sl.nil _ _,fun _=>rfl⟩,⟨Sl.nil _ _,fun _=>rfl⟩,⟨Sl.nil _ _,fun _=>rfl⟩,⟨Ju hl83 h79 h81,fun e=>by cases e⟩,⟨hl84,fun e=>by cases e⟩,⟨Be.nil,fun _=>rfl⟩⟩,Gt.plain (s:={ Bg 13 with name:=[120],x:=1,thn:=0,els:=0 }) rfl rfl rfl rfl rfl rfl,trivial⟩,Fg rfl⟩) hs rfl fun v33 G' H' _ hR hG88 hs=>?_)
    obtain ⟨vs,vb,es,us,rfl,hE,hU,rfl⟩:=hR
    replace hs:=hs.n rfl
    refine Xn 10 rfl (Sg hs.f7 rfl bQ fun _ hs=>Xe (Zk [2] rfl<|Ah ?_))
    have hs:=hs.f1
    obtain ⟨_,hG_hfs,hfs,hs⟩:=hs.fixRow noM
    replace hE:=hE.mono hG_hfs
    replace hU:=hU.mono hG_hfs
    have hs:=hs.f1
    obtain ⟨_,hG_hfb,hfb,hs⟩:=hs.fixRow noM
    replace hE:=hE.mono hG_hfb
    replace hU:=hU.mono hG_hfb
    replace hfs:=hfs.mono hG_hfb
    refine Zz results52 (Rb 0 hs rfl rF) ?_
    exact ⟨_,[],hs.done,rfl,vs,vb,rfl,by rw [show k.toNat % 14=10 from by omega];exact Fs (p:=Dd 10) hE hU hfs hfb rfl rfl (fun e=>by cases e) (fun e=>by cases e)⟩
   have hle:=hs.le
   refine Ca hs underlying33 sizeOf3 zeroValue3 rfl rfl dC dC rfl (cs:=[_,_]) rfl rfl fun v34 _ hs _=>?_
   have hsN:=hs.fixRow noM
   clear hs
   obtain ⟨_,hG84,hl84,hs⟩:=hsN
   replace h79:=h79.mono hG84
   obtain ⟨A84,c84,rfl,_⟩:=id hl84
   refine Am hs hle hG84 (lSr _) ?_
   have hle:=hs.le
   refine Xo 2 rfl (Sc (Tg) hs rfl fun v35 G' H' _ hR hG81 hs=>?_)
   obtain ⟨rfl,h81⟩:=hR
   replace hs:=hs.n rfl
   replace h79:=h79.mono hG81
   replace hl84:=hl84.mono hG81
   obtain ⟨A81,c81,rfl⟩:=Be.slice h81
   refine Am hs hle hG81 (lSr _)<|Xt 3 hs rfl (Ba zeroValue145 rfl Oq rfl (cs:=[_,_]) rfl ?_)
   have hle:=hs.le
   refine Xo 4 rfl (Se hs zeroValue145 rfl fun v36 _ hs _=>?_)
   have hsN:=hs.fixRow noM
   clear hs
   obtain ⟨_,hG83,hl83,hs⟩:=hsN
   replace h79:=h79.mono hG83
   replace hl84:=hl84.mono hG83
   replace h81:=h81.mono hG83
   obtain ⟨A83,c83,rfl,_⟩:=id hl83
   refine Am hs hle hG83 (lSr _)<|Xt 6 hs rfl (Ba zeroValue137 rfl Fu rfl (cs:=[_,_,_,_,_,_,_,_,_,_,_,_,_,_,_,_,_,_,_,_,_,_,_,_,_,_,_,_,_,_,_,_,_]) rfl ?_)
   have hle:=hs.le
   refine Xo 8 rfl (Fp hs underlying100 sizeOf137 zeroValue137 kR kR kR rfl (es:=[[_,_,_,_,_,_,_,_,_,_,_,_,_,_,_,_,_,_,_,_,_,_,_,_,_,_,_,_,_,_,_,_,_],[_,_,_,_,_,_,_,_,_,_,_,_,_,_,_,_,_,_,_,_,_,_,_,_,_,_,_,_,_,_,_,_,_]]) rfl rfl fun v37 _ hs shl=>?_)
   obtain ⟨bl87,rfl⟩:=shl
   refine Am hs hle (gLr _) (List.sublist_cons_self _ _)<|Xa 9 rfl (Sc (Hk (b:=bl87) (n:=2) (css:=[[Vi 9,Vi 0,Vi 0,Vi 0,Vi 0,Vi 0,Vi 0,Vn,Vf,Vi 0,Vn,Vn,Af 0,Af 0,Af 0,Af 0,Vi 0,Vi 0,Vi 0,Vi 0,Vf,.slice A83 2 c83,.slice A84 2 c84,Vi 0,Vf,Vi 0,Vi 0,Vi 0,Vi 0,Vn,.string ⟨[].toArray⟩,Vi 0,Vi 0],[Vi 13,Vi 1,Vi 0,Vi 0,Vi 0,Vi 0,Vi 0,Vn,Vf,Vi 0,Vn,Vn,Af 0,Af 0,Af 0,Af 0,Vi 0,Vi 0,Vi 0,Vi 0,Vf,Vn,Vn,Vi 0,Vf,Vi 0,Vi 0,Vi 0,Vi 0,Vn,.string ⟨#[120]⟩,Vi 0,Vi 0]]) (ss:=[{ Bg 9 with p:=[⟨Dy rV,false⟩,⟨Dy Pr,false⟩],ys:=[1,2],thn:=0,els:=0 },{ Bg 13 with name:=[120],x:=1,thn:=0,els:=0 }]) rfl dC dC ⟨⟨⟨_,_,_,_,_,_,rfl,⟨Sl.nil _ _,fun _=>rfl⟩,⟨Sl.nil _ _,fun _=>rfl⟩,⟨Sl.nil _ _,fun _=>rfl⟩,⟨Ju hl83 h79 h81,fun e=>by cases e⟩,⟨hl84,fun e=>by cases e⟩,⟨Be.nil,fun _=>rfl⟩⟩,Gt.plain (s:={ Bg 13 with name:=[120],x:=1,thn:=0,els:=0 }) rfl rfl rfl rfl rfl rfl,trivial⟩,Fg rfl⟩) hs rfl fun v38 G' H' _ hR hG88 hs=>?_)
   obtain ⟨vs,vb,es,us,rfl,hE,hU,rfl⟩:=hR
   replace hs:=hs.n rfl
   refine Xn 10 rfl (Sg hs.f7 rfl bQ fun _ hs=>Xe (Zk [2] rfl<|Ah ?_))
   have hs:=hs.f1
   obtain ⟨_,hG_hfs,hfs,hs⟩:=hs.fixRow noM
   replace hE:=hE.mono hG_hfs
   replace hU:=hU.mono hG_hfs
   have hs:=hs.f1
   obtain ⟨_,hG_hfb,hfb,hs⟩:=hs.fixRow noM
   replace hE:=hE.mono hG_hfb
   replace hU:=hU.mono hG_hfb
   replace hfs:=hfs.mono hG_hfb
   refine Zz results52 (Rb 0 hs rfl rF) ?_
   exact ⟨_,[],hs.done,rfl,vs,vb,rfl,by rw [show k.toNat % 14=10 from by omega];exact Fs (p:=Dd 10) hE hU hfs hfb rfl rfl (fun e=>by cases e) (fun e=>by cases e)⟩
  have hle:=hs.le
  refine Ca hs underlying33 sizeOf3 zeroValue3 rfl rfl dC dC rfl (cs:=[_,_]) rfl rfl fun v39 _ hs _=>?_
  have hsN:=hs.fixRow noM
  clear hs
  obtain ⟨_,hG84,hl84,hs⟩:=hsN
  obtain ⟨A84,c84,rfl,_⟩:=id hl84
  refine Am hs hle hG84 (lSr _) ?_
  have hle:=hs.le
  refine Xo 0 rfl (Sc (fN) hs rfl fun v40 G' H' _ hR hG79 hs=>?_)
  obtain ⟨rfl,h79⟩:=hR
  replace hs:=hs.n rfl
  replace hl84:=hl84.mono hG79
  obtain ⟨A79,c79,rfl⟩:=Be.slice h79
  refine Am hs hle hG79 (lSr _)<|Xt 1 hs rfl (Ba zeroValue145 rfl Oq rfl (cs:=[_,_]) rfl ?_)
  have hle:=hs.le
  refine Xo 2 rfl (Sc (Tg) hs rfl fun v41 G' H' _ hR hG81 hs=>?_)
  obtain ⟨rfl,h81⟩:=hR
  replace hs:=hs.n rfl
  replace hl84:=hl84.mono hG81
  replace h79:=h79.mono hG81
  obtain ⟨A81,c81,rfl⟩:=Be.slice h81
  refine Am hs hle hG81 (lSr _)<|Xt 3 hs rfl (Ba zeroValue145 rfl Oq rfl (cs:=[_,_]) rfl ?_)
  have hle:=hs.le
  refine Xo 4 rfl (Se hs zeroValue145 rfl fun v42 _ hs _=>?_)
  have hsN:=hs.fixRow noM
  clear hs
  obtain ⟨_,hG83,hl83,hs⟩:=hsN
  replace hl84:=hl84.mono hG83
  replace h79:=h79.mono hG83
  replace h81:=h81.mono hG83
  obtain ⟨A83,c83,rfl,_⟩:=id hl83
  refine Am hs hle hG83 (lSr _)<|Xt 6 hs rfl (Ba zeroValue137 rfl Fu rfl (cs:=[_,_,_,_,_,_,_,_,_,_,_,_,_,_,_,_,_,_,_,_,_,_,_,_,_,_,_,_,_,_,_,_,_]) rfl ?_)
  have hle:=hs.le
  refine Xo 8 rfl (Fp hs underlying100 sizeOf137 zeroValue137 kR kR kR rfl (es:=[[_,_,_,_,_,_,_,_,_,_,_,_,_,_,_,_,_,_,_,_,_,_,_,_,_,_,_,_,_,_,_,_,_],[_,_,_,_,_,_,_,_,_,_,_,_,_,_,_,_,_,_,_,_,_,_,_,_,_,_,_,_,_,_,_,_,_]]) rfl rfl fun v43 _ hs shl=>?_)
  obtain ⟨bl87,rfl⟩:=shl
  refine Am hs hle (gLr _) (List.sublist_cons_self _ _)<|Xa 9 rfl (Sc (Hk (b:=bl87) (n:=2) (css:=[[Vi 9,Vi 0,Vi 0,Vi 0,Vi 0,Vi 0,Vi 0,Vn,Vf,Vi 0,Vn,Vn,Af 0,Af 0,Af 0,Af 0,Vi 0,Vi 0,Vi 0,Vi 0,Vf,.slice A83 2 c83,.slice A84 2 c84,Vi 0,Vf,Vi 0,Vi 0,Vi 0,Vi 0,Vn,.string ⟨[].toArray⟩,Vi 0,Vi 0],[Vi 13,Vi 1,Vi 0,Vi 0,Vi 0,Vi 0,Vi 0,Vn,Vf,Vi 0,Vn,Vn,Af 0,Af 0,Af 0,Af 0,Vi 0,Vi 0,Vi 0,Vi 0,Vf,Vn,Vn,Vi 0,Vf,Vi 0,Vi 0,Vi 0,Vi 0,Vn,.string ⟨#[120]⟩,Vi 0,Vi 0]]) (ss:=[{ Bg 9 with p:=[⟨Dy rV,false⟩,⟨Dy Pr,false⟩],ys:=[1,2],thn:=0,els:=0 },{ Bg 13 with name:=[120],x:=1,thn:=0,els:=0 }]) rfl dC dC ⟨⟨⟨_,_,_,_,_,_,rfl,⟨Sl.nil _ _,fun _=>rfl⟩,⟨Sl.nil _ _,fun _=>rfl⟩,⟨Sl.nil _ _,fun _=>rfl⟩,⟨Ju hl83 h79 h81,fun e=>by cases e⟩,⟨hl84,fun e=>by cases e⟩,⟨Be.nil,fun _=>rfl⟩⟩,Gt.plain (s:={ Bg 13 with name:=[120],x:=1,thn:=0,els:=0 }) rfl rfl rfl rfl rfl rfl,trivial⟩,Fg rfl⟩) hs rfl fun v44 G' H' _ hR hG88 hs=>?_)
  obtain ⟨vs,vb,es,us,rfl,hE,hU,rfl⟩:=hR
  replace hs:=hs.n rfl
  refine Xn 10 rfl (Sg hs.f7 rfl bQ fun _ hs=>Xe (Zk [2] rfl<|Ah ?_))
  have hs:=hs.f1
  obtain ⟨_,hG_hfs,hfs,hs⟩:=hs.fixRow noM
  replace hE:=hE.mono hG_hfs
  replace hU:=hU.mono hG_hfs
  have hs:=hs.f1
  obtain ⟨_,hG_hfb,hfb,hs⟩:=hs.fixRow noM
  replace hE:=hE.mono hG_hfb
  replace hU:=hU.mono hG_hfb
  replace hfs:=hfs.mono hG_hfb
  refine Zz results52 (Rb 0 hs rfl rF) ?_
  exact ⟨_,[],hs.done,rfl,vs,vb,rfl,by rw [show k.toNat % 14=10 from by omega];exact Fs (p:=Dd 10) hE hU hfs hfb rfl rfl (fun e=>by cases e) (fun e=>by cases e)⟩
 refine Wp 5 [5,2,3,4,16,77] hs rfl<|Zy hs (Yc rfl (fun h90=>?_) fun h90=>?_)
 ·
  refine Wp 4 [0] hs rfl<|Bc [0,1,2,3,4,5,6,7,8,9] hs kR ?_
  replace hs:=hs.drew
  refine Xr [8] [3] hs rfl<|Kq 0 6 rfl rfl kR rfl rfl ?_ ?_
  ·
   have hle:=hs.le
   refine Et (H1:=[]) hs rfl func79 rfl kR (Tg) fun v45 G' H' _ hR hG91 hs=>?_
   obtain ⟨rfl,h91⟩:=hR
   replace hs:=hs.n rfl
   obtain ⟨A91,c91,rfl⟩:=Be.slice h91
   refine Am hs hle hG91 (lSr _)<|Xt 1 hs rfl (Ba zeroValue145 rfl Oq rfl (cs:=[_,_]) rfl<|Kq 2 6 rfl rfl kR rfl rfl ?_ ?_)
   ·
    have hle:=hs.le
    refine Et (H1:=[]) hs rfl func74 rfl kR (aX) fun v46 G' H' _ hR hG93 hs=>?_
    obtain ⟨rfl,rfl⟩:=hR
    replace hs:=hs.n rfl
    replace h91:=h91.mono hG93
    refine Am hs hle hG93 (lSr _)<|Kq 3 6 rfl rfl kR rfl rfl ?_ ?_
    ·
     have hle:=hs.le
     refine Et (H1:=[]) hs rfl func80 rfl kR (Pj fM) fun v47 G' H' _ hR hG94 hs=>?_
     obtain ⟨rfl,h94⟩:=hR
     replace hs:=hs.n rfl
     replace h91:=h91.mono hG94
     obtain ⟨A94,c94,rfl⟩:=Be.slice h94
     refine Am hs hle hG94 (lSr _)<|Xt 4 hs rfl (Ba zeroValue145 rfl Oq rfl (cs:=[_,_]) rfl<|Kq 5 6 rfl rfl kR rfl rfl ?_ ?_)
     ·
      have hle:=hs.le
      refine Ca hs underlying131 sizeOf145 zeroValue145 rfl rfl dC dC rfl (cs:=[_,_,_,_]) rfl rfl fun v48 _ hs _=>?_
      have hsN:=hs.fixRow noM
      clear hs
      obtain ⟨_,hG96,hl96,hs⟩:=hsN
      replace h91:=h91.mono hG96
      replace h94:=h94.mono hG96
      obtain ⟨A96,c96,rfl,_⟩:=id hl96
      refine Am hs hle hG96 (lSr _) ?_
      have hle:=hs.le
      refine Xo 6 rfl (Se hs zeroValue3 rfl fun v49 _ hs _=>?_)
      have hsN:=hs.fixRow noM
      clear hs
      obtain ⟨_,hG97,hl97,hs⟩:=hsN
      replace h91:=h91.mono hG97
      replace h94:=h94.mono hG97
      replace hl96:=hl96.mono hG97
      obtain ⟨A97,c97,rfl,_⟩:=id hl97
      refine Am hs hle hG97 (lSr _)<|Xt 7 hs rfl (Ba zeroValue137 rfl Fu rfl (cs:=[_,_,_,_,_,_,_,_,_,_,_,_,_,_,_,_,_,_,_,_,_,_,_,_,_,_,_,_,_,_,_,_,_]) rfl ?_)
      have hle:=hs.le
      refine Xo 9 rfl (Fp hs underlying100 sizeOf137 zeroValue137 kR kR kR rfl (es:=[[_,_,_,_,_,_,_,_,_,_,_,_,_,_,_,_,_,_,_,_,_,_,_,_,_,_,_,_,_,_,_,_,_],[_,_,_,_,_,_,_,_,_,_,_,_,_,_,_,_,_,_,_,_,_,_,_,_,_,_,_,_,_,_,_,_,_]]) rfl rfl fun v50 _ hs shl=>?_)
      obtain ⟨bl100,rfl⟩:=shl
      refine Am hs hle (gLr _) (List.sublist_cons_self _ _)<|Xa 10 rfl (Sc (Hk (b:=bl100) (n:=2) (css:=[[Vi 9,Vi 0,Vi 0,Vi 0,Vi 0,Vi 0,Vi 0,Vn,Vf,Vi 0,Vn,Vn,Af 0,Af 0,Af 0,Af 0,Vi 0,Vi 0,Vi 0,Vi 0,Vf,.slice A96 2 c96,.slice A97 2 c97,Vi 0,Vf,Vi 0,Vi 0,Vi 0,Vi 0,Vn,.string ⟨[].toArray⟩,Vi 0,Vi 0],[Vi 13,Vi 1,Vi 0,Vi 0,Vi 0,Vi 0,Vi 0,Vn,Vf,Vi 0,Vn,Vn,Af 0,Af 0,Af 0,Af 0,Vi 0,Vi 0,Vi 0,Vi 0,Vf,Vn,Vn,Vi 0,Vf,Vi 0,Vi 0,Vi 0,Vi 0,Vn,.string ⟨#[120]⟩,Vi 0,Vi 0]]) (ss:=[{ Bg 9 with p:=[⟨Dy Pr,true⟩,⟨Dy clB,false⟩],ys:=[1,2],thn:=0,els:=0 },{ Bg 13 with name:=[120],x:=1,thn:=0,els:=0 }]) rfl dC dC ⟨⟨⟨_,_,_,_,_,_,rfl,⟨Sl.nil _ _,fun _=>rfl⟩,⟨Sl.nil _ _,fun _=>rfl⟩,⟨Sl.nil _ _,fun _=>rfl⟩,⟨Ju hl96 h91 h94,fun e=>by cases e⟩,⟨hl97,fun e=>by cases e⟩,⟨Be.nil,fun _=>rfl⟩⟩,Gt.plain (s:={ Bg 13 with name:=[120],x:=1,thn:=0,els:=0 }) rfl rfl rfl rfl rfl rfl,trivial⟩,Fg rfl⟩) hs rfl fun v51 G' H' _ hR hG101 hs=>?_)
      obtain ⟨vs,vb,es,us,rfl,hE,hU,rfl⟩:=hR
      replace hs:=hs.n rfl
      refine Xn 11 rfl (Sg hs.f7 rfl bQ fun _ hs=>Xe (Zk [2] rfl<|Ah ?_))
      have hs:=hs.f1
      obtain ⟨_,hG_hfs,hfs,hs⟩:=hs.fixRow noM
      replace hE:=hE.mono hG_hfs
      replace hU:=hU.mono hG_hfs
      have hs:=hs.f1
      obtain ⟨_,hG_hfb,hfb,hs⟩:=hs.fixRow noM
      replace hE:=hE.mono hG_hfb
      replace hU:=hU.mono hG_hfb
      replace hfs:=hfs.mono hG_hfb
      refine Zz results52 (Rb 0 hs rfl rF) ?_
      exact ⟨_,[],hs.done,rfl,vs,vb,rfl,by rw [show k.toNat % 14=11 from by omega];exact Fs (p:=Dd 11) hE hU hfs hfb rfl rfl (fun e=>by cases e) (fun e=>by cases e)⟩
     have hle:=hs.le
     refine Ca hs underlying33 sizeOf3 zeroValue3 rfl rfl dC dC rfl (cs:=[_,_]) rfl rfl fun v52 _ hs _=>?_
     have hsN:=hs.fixRow noM
     clear hs
     obtain ⟨_,hG97,hl97,hs⟩:=hsN
     replace h91:=h91.mono hG97
     replace h94:=h94.mono hG97
     obtain ⟨A97,c97,rfl,_⟩:=id hl97
     refine Am hs hle hG97 (lSr _) ?_
     have hle:=hs.le
     refine Xo 5 rfl (Se hs zeroValue145 rfl fun v53 _ hs _=>?_)
     have hsN:=hs.fixRow noM
     clear hs
     obtain ⟨_,hG96,hl96,hs⟩:=hsN
     replace h91:=h91.mono hG96
     replace h94:=h94.mono hG96
     replace hl97:=hl97.mono hG96
     obtain ⟨A96,c96,rfl,_⟩:=id hl96
     refine Am hs hle hG96 (lSr _)<|Xt 7 hs rfl (Ba zeroValue137 rfl Fu rfl (cs:=[_,_,_,_,_,_,_,_,_,_,_,_,_,_,_,_,_,_,_,_,_,_,_,_,_,_,_,_,_,_,_,_,_]) rfl ?_)
     have hle:=hs.le
     refine Xo 9 rfl (Fp hs underlying100 sizeOf137 zeroValue137 kR kR kR rfl (es:=[[_,_,_,_,_,_,_,_,_,_,_,_,_,_,_,_,_,_,_,_,_,_,_,_,_,_,_,_,_,_,_,_,_],[_,_,_,_,_,_,_,_,_,_,_,_,_,_,_,_,_,_,_,_,_,_,_,_,_,_,_,_,_,_,_,_,_]]) rfl rfl fun v54 _ hs shl=>?_)
     obtain ⟨bl100,rfl⟩:=shl
     refine Am hs hle (gLr _) (List.sublist_cons_self _ _)<|Xa 10 rfl (Sc (Hk (b:=bl100) (n:=2) (css:=[[Vi 9,Vi 0,Vi 0,Vi 0,Vi 0,Vi 0,Vi 0,Vn,Vf,Vi 0,Vn,Vn,Af 0,Af 0,Af 0,Af 0,Vi 0,Vi 0,Vi 0,Vi 0,Vf,.slice A96 2 c96,.slice A97 2 c97,Vi 0,Vf,Vi 0,Vi 0,Vi 0,Vi 0,Vn,.string ⟨[].toArray⟩,Vi 0,Vi 0],[Vi 13,Vi 1,Vi 0,Vi 0,Vi 0,Vi 0,Vi 0,Vn,Vf,Vi 0,Vn,Vn,Af 0,Af 0,Af 0,Af 0,Vi 0,Vi 0,Vi 0,Vi 0,Vf,Vn,Vn,Vi 0,Vf,Vi 0,Vi 0,Vi 0,Vi 0,Vn,.string ⟨#[120]⟩,Vi 0,Vi 0]]) (ss:=[{ Bg 9 with p:=[⟨Dy Pr,true⟩,⟨Dy clB,false⟩],ys:=[1,2],thn:=0,els:=0 },{ Bg 13 with name:=[120],x:=1,thn:=0,els:=0 }]) rfl dC dC ⟨⟨⟨_,_,_,_,_,_,rfl,⟨Sl.nil _ _,fun _=>rfl⟩,⟨Sl.nil _ _,fun _=>rfl⟩,⟨Sl.nil _ _,fun _=>rfl⟩,⟨Ju hl96 h91 h94,fun e=>by cases e⟩,⟨hl97,fun e=>by cases e⟩,⟨Be.nil,fun _=>rfl⟩⟩,Gt.plain (s:={ Bg 13 with name:=[120],x:=1,thn:=0,els:=0 }) rfl rfl rfl rfl rfl rfl,trivial⟩,Fg rfl⟩) hs rfl fun v55 G' H' _ hR hG101 hs=>?_)
     obtain ⟨vs,vb,es,us,rfl,hE,hU,rfl⟩:=hR
     replace hs:=hs.n rfl
     refine Xn 11 rfl (Sg hs.f7 rfl bQ fun _ hs=>Xe (Zk [2] rfl<|Ah ?_))
     have hs:=hs.f1
     obtain ⟨_,hG_hfs,hfs,hs⟩:=hs.fixRow noM
     replace hE:=hE.mono hG_hfs
     replace hU:=hU.mono hG_hfs
     have hs:=hs.f1
     obtain ⟨_,hG_hfb,hfb,hs⟩:=hs.fixRow noM
     replace hE:=hE.mono hG_hfb
     replace hU:=hU.mono hG_hfb
     replace hfs:=hfs.mono hG_hfb
     refine Zz results52 (Rb 0 hs rfl rF) ?_
     exact ⟨_,[],hs.done,rfl,vs,vb,rfl,by rw [show k.toNat % 14=11 from by omega];exact Fs (p:=Dd 11) hE hU hfs hfb rfl rfl (fun e=>by cases e) (fun e=>by cases e)⟩
    have hle:=hs.le
    refine Ca hs underlying33 sizeOf3 zeroValue3 rfl rfl dC dC rfl (cs:=[_,_]) rfl rfl fun v56 _ hs _=>?_
    have hsN:=hs.fixRow noM
    clear hs
    obtain ⟨_,hG97,hl97,hs⟩:=hsN
    replace h91:=h91.mono hG97
    obtain ⟨A97,c97,rfl,_⟩:=id hl97
    refine Am hs hle hG97 (lSr _) ?_
    have hle:=hs.le
    refine Xo 3 rfl (Sc (Pj fM) hs rfl fun v57 G' H' _ hR hG94 hs=>?_)
    obtain ⟨rfl,h94⟩:=hR
    replace hs:=hs.n rfl
    replace h91:=h91.mono hG94
    replace hl97:=hl97.mono hG94
    obtain ⟨A94,c94,rfl⟩:=Be.slice h94
    refine Am hs hle hG94 (lSr _)<|Xt 4 hs rfl (Ba zeroValue145 rfl Oq rfl (cs:=[_,_]) rfl ?_)
    have hle:=hs.le
    refine Xo 5 rfl (Se hs zeroValue145 rfl fun v58 _ hs _=>?_)
    have hsN:=hs.fixRow noM
    clear hs
    obtain ⟨_,hG96,hl96,hs⟩:=hsN
    replace h91:=h91.mono hG96
    replace hl97:=hl97.mono hG96
    replace h94:=h94.mono hG96
    obtain ⟨A96,c96,rfl,_⟩:=id hl96
    refine Am hs hle hG96 (lSr _)<|Xt 7 hs rfl (Ba zeroValue137 rfl Fu rfl (cs:=[_,_,_,_,_,_,_,_,_,_,_,_,_,_,_,_,_,_,_,_,_,_,_,_,_,_,_,_,_,_,_,_,_]) rfl ?_)
    have hle:=hs.le
    refine Xo 9 rfl (Fp hs underlying100 sizeOf137 zeroValue137 kR kR kR rfl (es:=[[_,_,_,_,_,_,_,_,_,_,_,_,_,_,_,_,_,_,_,_,_,_,_,_,_,_,_,_,_,_,_,_,_],[_,_,_,_,_,_,_,_,_,_,_,_,_,_,_,_,_,_,_,_,_,_,_,_,_,_,_,_,_,_,_,_,_]]) rfl rfl fun v59 _ hs shl=>?_)
    obtain ⟨bl100,rfl⟩:=shl
    refine Am hs hle (gLr _) (List.sublist_cons_self _ _)<|Xa 10 rfl (Sc (Hk (b:=bl100) (n:=2) (css:=[[Vi 9,Vi 0,Vi 0,Vi 0,Vi 0,Vi 0,Vi 0,Vn,Vf,Vi 0,Vn,Vn,Af 0,Af 0,Af 0,Af 0,Vi 0,Vi 0,Vi 0,Vi 0,Vf,.slice A96 2 c96,.slice A97 2 c97,Vi 0,Vf,Vi 0,Vi 0,Vi 0,Vi 0,Vn,.string ⟨[].toArray⟩,Vi 0,Vi 0],[Vi 13,Vi 1,Vi 0,Vi 0,Vi 0,Vi 0,Vi 0,Vn,Vf,Vi 0,Vn,Vn,Af 0,Af 0,Af 0,Af 0,Vi 0,Vi 0,Vi 0,Vi 0,Vf,Vn,Vn,Vi 0,Vf,Vi 0,Vi 0,Vi 0,Vi 0,Vn,.string ⟨#[120]⟩,Vi 0,Vi 0]]) (ss:=[{ Bg 9 with p:=[⟨Dy Pr,true⟩,⟨Dy clB,false⟩],ys:=[1,2],thn:=0,els:=0 },{ Bg 13 with name:=[120],x:=1,thn:=0,els:=0 }]) rfl dC dC ⟨⟨⟨_,_,_,_,_,_,rfl,⟨Sl.nil _ _,fun _=>rfl⟩,⟨Sl.nil _ _,fun _=>rfl⟩,⟨Sl.nil _ _,fun _=>rfl⟩,⟨Ju hl96 h91 h94,fun e=>by cases e⟩,⟨hl97,fun e=>by cases e⟩,⟨Be.nil,fun _=>rfl⟩⟩,Gt.plain (s:={ Bg 13 with name:=[120],x:=1,thn:=0,els:=0 }) rfl rfl rfl rfl rfl rfl,trivial⟩,Fg rfl⟩) hs rfl fun v60 G' H' _ hR hG101 hs=>?_)
    obtain ⟨vs,vb,es,us,rfl,hE,hU,rfl⟩:=hR
    replace hs:=hs.n rfl
    refine Xn 11 rfl (Sg hs.f7 rfl bQ fun _ hs=>Xe (Zk [2] rfl<|Ah ?_))
    have hs:=hs.f1
    obtain ⟨_,hG_hfs,hfs,hs⟩:=hs.fixRow noM
    replace hE:=hE.mono hG_hfs
    replace hU:=hU.mono hG_hfs
    have hs:=hs.f1
    obtain ⟨_,hG_hfb,hfb,hs⟩:=hs.fixRow noM
    replace hE:=hE.mono hG_hfb
    replace hU:=hU.mono hG_hfb
    replace hfs:=hfs.mono hG_hfb
    refine Zz results52 (Rb 0 hs rfl rF) ?_
    exact ⟨_,[],hs.done,rfl,vs,vb,rfl,by rw [show k.toNat % 14=11 from by omega];exact Fs (p:=Dd 11) hE hU hfs hfb rfl rfl (fun e=>by cases e) (fun e=>by cases e)⟩
   have hle:=hs.le
   refine Ca hs underlying33 sizeOf3 zeroValue3 rfl rfl dC dC rfl (cs:=[_,_]) rfl rfl fun v61 _ hs _=>?_
   have hsN:=hs.fixRow noM
   clear hs
   obtain ⟨_,hG97,hl97,hs⟩:=hsN
   replace h91:=h91.mono hG97
   obtain ⟨A97,c97,rfl,_⟩:=id hl97
   refine Am hs hle hG97 (lSr _) ?_
   have hle:=hs.le
   refine Xo 2 rfl (Sc (aX) hs rfl fun v62 G' H' _ hR hG93 hs=>?_)
   obtain ⟨rfl,rfl⟩:=hR
   replace hs:=hs.n rfl
   replace h91:=h91.mono hG93
   replace hl97:=hl97.mono hG93
   refine Am hs hle hG93 (lSr _) ?_
   have hle:=hs.le
   refine Xo 3 rfl (Sc (Pj fM) hs rfl fun v63 G' H' _ hR hG94 hs=>?_)
   obtain ⟨rfl,h94⟩:=hR
   replace hs:=hs.n rfl
   replace h91:=h91.mono hG94
   replace hl97:=hl97.mono hG94
   obtain ⟨A94,c94,rfl⟩:=Be.slice h94
   refine Am hs hle hG94 (lSr _)<|Xt 4 hs rfl (Ba zeroValue145 rfl Oq rfl (cs:=[_,_]) rfl ?_)
   have hle:=hs.le
   refine Xo 5 rfl (Se hs zeroValue145 rfl fun v64 _ hs _=>?_)
   have hsN:=hs.fixRow noM
   clear hs
   obtain ⟨_,hG96,hl96,hs⟩:=hsN
   replace h91:=h91.mono hG96
   replace hl97:=hl97.mono hG96
   replace h94:=h94.mono hG96
   obtain ⟨A96,c96,rfl,_⟩:=id hl96
   refine Am hs hle hG96 (lSr _)<|Xt 7 hs rfl (Ba zeroValue137 rfl Fu rfl (cs:=[_,_,_,_,_,_,_,_,_,_,_,_,_,_,_,_,_,_,_,_,_,_,_,_,_,_,_,_,_,_,_,_,_]) rfl ?_)
   have hle:=hs.le
   refine Xo 9 rfl (Fp hs underlying100 sizeOf137 zeroValue137 kR kR kR rfl (es:=[[_,_,_,_,_,_,_,_,_,_,_,_,_,_,_,_,_,_,_,_,_,_,_,_,_,_,_,_,_,_,_,_,_],[_,_,_,_,_,_,_,_,_,_,_,_,_,_,_,_,_,_,_,_,_,_,_,_,_,_,_,_,_,_,_,_,_]]) rfl rfl fun v65 _ hs shl=>?_)
   obtain ⟨bl100,rfl⟩:=shl
   refine Am hs hle (gLr _) (List.sublist_cons_self _ _)<|Xa 10 rfl (Sc (Hk (b:=bl100) (n:=2) (css:=[[Vi 9,Vi 0,Vi 0,Vi 0,Vi 0,Vi 0,Vi 0,Vn,Vf,Vi 0,Vn,Vn,Af 0,Af 0,Af 0,Af 0,Vi 0,Vi 0,Vi 0,Vi 0,Vf,.slice A96 2 c96,.slice A97 2 c97,Vi 0,Vf,Vi 0,Vi 0,Vi 0,Vi 0,Vn,.string ⟨[].toArray⟩,Vi 0,Vi 0],[Vi 13,Vi 1,Vi 0,Vi 0,Vi 0,Vi 0,Vi 0,Vn,Vf,Vi 0,Vn,Vn,Af 0,Af 0,Af 0,Af 0,Vi 0,Vi 0,Vi 0,Vi 0,Vf,Vn,Vn,Vi 0,Vf,Vi 0,Vi 0,Vi 0,Vi 0,Vn,.string ⟨#[120]⟩,Vi 0,Vi 0]]) (ss:=[{ Bg 9 with p:=[⟨Dy Pr,true⟩,⟨Dy clB,false⟩],ys:=[1,2],thn:=0,els:=0 },{ Bg 13 with name:=[120],x:=1,thn:=0,els:=0 }]) rfl dC dC ⟨⟨⟨_,_,_,_,_,_,rfl,⟨Sl.nil _ _,fun _=>rfl⟩,⟨Sl.nil _ _,fun _=>rfl⟩,⟨Sl.nil _ _,fun _=>rfl⟩,⟨Ju hl96 h91 h94,fun e=>by cases e⟩,⟨hl97,fun e=>by cases e⟩,⟨Be.nil,fun _=>rfl⟩⟩,Gt.plain (s:={ Bg 13 with name:=[120],x:=1,thn:=0,els:=0 }) rfl rfl rfl rfl rfl rfl,trivial⟩,Fg rfl⟩) hs rfl fun v66 G' H' _ hR hG101 hs=>?_)
   obtain ⟨vs,vb,es,us,rfl,hE,hU,rfl⟩:=hR
   replace hs:=hs.n rfl
   refine Xn 11 rfl (Sg hs.f7 rfl bQ fun _ hs=>Xe (Zk [2] rfl<|Ah ?_))
   have hs:=hs.f1
   obtain ⟨_,hG_hfs,hfs,hs⟩:=hs.fixRow noM
   replace hE:=hE.mono hG_hfs
   replace hU:=hU.mono hG_hfs
   have hs:=hs.f1
   obtain ⟨_,hG_hfb,hfb,hs⟩:=hs.fixRow noM
   replace hE:=hE.mono hG_hfb
   replace hU:=hU.mono hG_hfb
   replace hfs:=hfs.mono hG_hfb
   refine Zz results52 (Rb 0 hs rfl rF) ?_
   exact ⟨_,[],hs.done,rfl,vs,vb,rfl,by rw [show k.toNat % 14=11 from by omega];exact Fs (p:=Dd 11) hE hU hfs hfb rfl rfl (fun e=>by cases e) (fun e=>by cases e)⟩
  have hle:=hs.le
  refine Ca hs underlying33 sizeOf3 zeroValue3 rfl rfl dC dC rfl (cs:=[_,_]) rfl rfl fun v67 _ hs _=>?_
  have hsN:=hs.fixRow noM
  clear hs
  obtain ⟨_,hG97,hl97,hs⟩:=hsN
  obtain ⟨A97,c97,rfl,_⟩:=id hl97
  refine Am hs hle hG97 (lSr _) ?_
  have hle:=hs.le
  refine Xo 0 rfl (Sc (Tg) hs rfl fun v68 G' H' _ hR hG91 hs=>?_)
  obtain ⟨rfl,h91⟩:=hR
  replace hs:=hs.n rfl
  replace hl97:=hl97.mono hG91
  obtain ⟨A91,c91,rfl⟩:=Be.slice h91
  refine Am hs hle hG91 (lSr _)<|Xt 1 hs rfl (Ba zeroValue145 rfl Oq rfl (cs:=[_,_]) rfl ?_)
  have hle:=hs.le
  refine Xo 2 rfl (Sc (aX) hs rfl fun v69 G' H' _ hR hG93 hs=>?_)
  obtain ⟨rfl,rfl⟩:=hR
  replace hs:=hs.n rfl
  replace hl97:=hl97.mono hG93
  replace h91:=h91.mono hG93
  refine Am hs hle hG93 (lSr _) ?_
  have hle:=hs.le
  refine Xo 3 rfl (Sc (Pj fM) hs rfl fun v70 G' H' _ hR hG94 hs=>?_)
  obtain ⟨rfl,h94⟩:=hR
  replace hs:=hs.n rfl
  replace hl97:=hl97.mono hG94
  replace h91:=h91.mono hG94
  obtain ⟨A94,c94,rfl⟩:=Be.slice h94
  refine Am hs hle hG94 (lSr _)<|Xt 4 hs rfl (Ba zeroValue145 rfl Oq rfl (cs:=[_,_]) rfl ?_)
  have hle:=hs.le
  refine Xo 5 rfl (Se hs zeroValue145 rfl fun v71 _ hs _=>?_)
  have hsN:=hs.fixRow noM
  clear hs
  obtain ⟨_,hG96,hl96,hs⟩:=hsN
  replace hl97:=hl97.mono hG96
  replace h91:=h91.mono hG96
  replace h94:=h94.mono hG96
  obtain ⟨A96,c96,rfl,_⟩:=id hl96
  refine Am hs hle hG96 (lSr _)<|Xt 7 hs rfl (Ba zeroValue137 rfl Fu rfl (cs:=[_,_,_,_,_,_,_,_,_,_,_,_,_,_,_,_,_,_,_,_,_,_,_,_,_,_,_,_,_,_,_,_,_]) rfl ?_)
  have hle:=hs.le
  refine Xo 9 rfl (Fp hs underlying100 sizeOf137 zeroValue137 kR kR kR rfl (es:=[[_,_,_,_,_,_,_,_,_,_,_,_,_,_,_,_,_,_,_,_,_,_,_,_,_,_,_,_,_,_,_,_,_],[_,_,_,_,_,_,_,_,_,_,_,_,_,_,_,_,_,_,_,_,_,_,_,_,_,_,_,_,_,_,_,_,_]]) rfl rfl fun v72 _ hs shl=>?_)
  obtain ⟨bl100,rfl⟩:=shl
  refine Am hs hle (gLr _) (List.sublist_cons_self _ _)<|Xa 10 rfl (Sc (Hk (b:=bl100) (n:=2) (css:=[[Vi 9,Vi 0,Vi 0,Vi 0,Vi 0,Vi 0,Vi 0,Vn,Vf,Vi 0,Vn,Vn,Af 0,Af 0,Af 0,Af 0,Vi 0,Vi 0,Vi 0,Vi 0,Vf,.slice A96 2 c96,.slice A97 2 c97,Vi 0,Vf,Vi 0,Vi 0,Vi 0,Vi 0,Vn,.string ⟨[].toArray⟩,Vi 0,Vi 0],[Vi 13,Vi 1,Vi 0,Vi 0,Vi 0,Vi 0,Vi 0,Vn,Vf,Vi 0,Vn,Vn,Af 0,Af 0,Af 0,Af 0,Vi 0,Vi 0,Vi 0,Vi 0,Vf,Vn,Vn,Vi 0,Vf,Vi 0,Vi 0,Vi 0,Vi 0,Vn,.string ⟨#[120]⟩,Vi 0,Vi 0]]) (ss:=[{ Bg 9 with p:=[⟨Dy Pr,true⟩,⟨Dy clB,false⟩],ys:=[1,2],thn:=0,els:=0 },{ Bg 13 with name:=[120],x:=1,thn:=0,els:=0 }]) rfl dC dC ⟨⟨⟨_,_,_,_,_,_,rfl,⟨Sl.nil _ _,fun _=>rfl⟩,⟨Sl.nil _ _,fun _=>rfl⟩,⟨Sl.nil _ _,fun _=>rfl⟩,⟨Ju hl96 h91 h94,fun e=>by cases e⟩,⟨hl97,fun e=>by cases e⟩,⟨Be.nil,fun _=>rfl⟩⟩,Gt.plain (s:={ Bg 13 with name:=[120],x:=1,thn:=0,els:=0 }) rfl rfl rfl rfl rfl rfl,trivial⟩,Fg rfl⟩) hs rfl fun v73 G' H' _ hR hG101 hs=>?_)
  obtain ⟨vs,vb,es,us,rfl,hE,hU,rfl⟩:=hR
  replace hs:=hs.n rfl
  refine Xn 11 rfl (Sg hs.f7 rfl bQ fun _ hs=>Xe (Zk [2] rfl<|Ah ?_))
  have hs:=hs.f1
  obtain ⟨_,hG_hfs,hfs,hs⟩:=hs.fixRow noM
  replace hE:=hE.mono hG_hfs
  replace hU:=hU.mono hG_hfs
  have hs:=hs.f1
  obtain ⟨_,hG_hfb,hfb,hs⟩:=hs.fixRow noM
  replace hE:=hE.mono hG_hfb
  replace hU:=hU.mono hG_hfb
  replace hfs:=hfs.mono hG_hfb
  refine Zz results52 (Rb 0 hs rfl rF) ?_
  exact ⟨_,[],hs.done,rfl,vs,vb,rfl,by rw [show k.toNat % 14=11 from by omega];exact Fs (p:=Dd 11) hE hU hfs hfb rfl rfl (fun e=>by cases e) (fun e=>by cases e)⟩
 refine Wp 5 [0] hs rfl<|Zy hs (Yc rfl (fun h103=>?_) fun h103=>?_)
 ·
  refine Wp 5 [0] hs rfl<|Zy hs (Ba zeroValue135 rfl xB rfl (cs:=[_,_,_,_,_,_,_]) rfl<|O_s (Sc (pV (cd:=⟨3,false,0,0,0,2,[]⟩) (Ar:=none) (kr:=0) Be.nil (fun _=>rfl)) hs rfl fun v74 G' H' _ hR hG105 hs=>?_))
  obtain ⟨vs,vb,es,us,rfl,hE,hU,rfl⟩:=hR
  replace hs:=hs.n rfl
  refine O_n (Sg hs.f7 rfl bQ fun _ hs=>Wp 1 [0] hs rfl<|Ah ?_)
  have hs:=hs.f1
  obtain ⟨_,hG_hfs,hfs,hs⟩:=hs.fixRow noM
  replace hE:=hE.mono hG_hfs
  replace hU:=hU.mono hG_hfs
  have hs:=hs.f1
  obtain ⟨_,hG_hfb,hfb,hs⟩:=hs.fixRow noM
  replace hE:=hE.mono hG_hfb
  replace hU:=hU.mono hG_hfb
  replace hfs:=hfs.mono hG_hfb
  refine Zz results52 (Rb 0 hs rfl rF) ?_
  exact ⟨_,[],hs.done,rfl,vs,vb,rfl,by rw [show k.toNat % 14=12 from by omega];exact Fs (p:=Dd 12) hE hU hfs hfb rfl rfl (fun e=>by cases e) (fun e=>by cases e)⟩
 refine Wp 6 [0] hs rfl<|Zy hs (Ba zeroValue129 rfl xA rfl (cs:=[_,_,_,_,_]) rfl<|Zy hs (Ba zeroValue137 rfl Fu rfl (cs:=[_,_,_,_,_,_,_,_,_,_,_,_,_,_,_,_,_,_,_,_,_,_,_,_,_,_,_,_,_,_,_,_,_]) rfl<|Wp 1 [4] hs rfl<|O_s (Fp hs underlying100 sizeOf137 zeroValue137 kR kR kR rfl (es:=[[_,_,_,_,_,_,_,_,_,_,_,_,_,_,_,_,_,_,_,_,_,_,_,_,_,_,_,_,_,_,_,_,_],[_,_,_,_,_,_,_,_,_,_,_,_,_,_,_,_,_,_,_,_,_,_,_,_,_,_,_,_,_,_,_,_,_]]) rfl rfl fun v75 _ hs shl=>?_)))
 obtain ⟨bl109,rfl⟩:=shl
 refine O_s (Sc (Hk (b:=bl109) (n:=2) (css:=[[Vi 8,Vi 0,Vi 0,Vi 0,Vi 0,Vi 0,Vi 0,Vn,Vf,Vi 0,Vn,Vn,Af 0,Af 0,Af 0,Af 0,Vi 16,Vi 2,Vi 11,Vi 2,Vf,Vn,Vn,Vi 0,Vf,Vi 0,Vi 0,Vi 0,Vi 0,Vn,.string ⟨[].toArray⟩,Vi 0,Vi 0],[Vi 13,Vi 0,Vi 0,Vi 0,Vi 0,Vi 0,Vi 0,Vn,Vf,Vi 0,Vn,Vn,Af 0,Af 0,Af 0,Af 0,Vi 0,Vi 0,Vi 0,Vi 0,Vf,Vn,Vn,Vi 0,Vf,Vi 0,Vi 0,Vi 0,Vi 0,Vn,.string ⟨#[120]⟩,Vi 0,Vi 0]]) (ss:=[{ Bg 8 with rule:=⟨16,2,11,2,false⟩,thn:=0,els:=0 },{ Bg 13 with name:=[120],thn:=0,els:=0 }]) rfl dC dC ⟨⟨Gt.plain (s:={ Bg 8 with rule:=⟨16,2,11,2,false⟩,thn:=0,els:=0 }) rfl rfl rfl rfl rfl rfl,Gt.plain (s:={ Bg 13 with name:=[120],thn:=0,els:=0 }) rfl rfl rfl rfl rfl rfl,trivial⟩,Fg rfl⟩) hs rfl fun v76 G' H' _ hR hG110 hs=>?_)
 obtain ⟨vs,vb,es,us,rfl,hE,hU,rfl⟩:=hR
 replace hs:=hs.n rfl
 refine O_n (Sg hs.f7 rfl bQ fun _ hs=>Wp 1 [0] hs rfl<|Ah ?_)
 have hs:=hs.f1
 obtain ⟨_,hG_hfs,hfs,hs⟩:=hs.fixRow noM
 replace hE:=hE.mono hG_hfs
 replace hU:=hU.mono hG_hfs
 have hs:=hs.f1
 obtain ⟨_,hG_hfb,hfb,hs⟩:=hs.fixRow noM
 replace hE:=hE.mono hG_hfb
 replace hU:=hU.mono hG_hfb
 replace hfs:=hfs.mono hG_hfb
 refine Zz results52 (Rb 0 hs rfl rF) ?_
 exact ⟨_,[],hs.done,rfl,vs,vb,rfl,by rw [show k.toNat % 14=13 from by omega];exact Fs (p:=Dd 13) hE hU hfs hfb rfl rfl (fun e=>by cases e) (fun e=>by cases e)⟩
def Nm (l:List Nat):List Int:=l.map fun x:Nat=>(x:Int)
theorem zH {l:List Nat} {x:Nat}:(x:Int)∈Nm l↔x∈l:=by
  unfold Nm
  rw [List.mem_map]
  refine ⟨fun ⟨y,hy,e⟩=>?_,fun h=>⟨x,h,rfl⟩⟩
  have:y=x:=by omega
  rw [← this];exact hy
theorem bC:∀ (n:Nat) (l:List Nat),l.Nodup→(∀ y∈l,y<n)→l.length≤n
  | 0,l,_,h=>by
    cases l with
    | nil=>simp
    | cons a l=>exact absurd (h a List.mem_cons_self) (Nat.not_lt_zero _)
  | n+1,l,hd,h=>by
    by_cases hm:n∈l
    · have h1:=bC n (l.erase n) (hd.erase n) (fun y hy=>by
        have h2:=(hd.mem_erase_iff).1 hy
        have:=h y h2.2
        have h3:=h2.1
        omega)
      rw [List.length_erase_of_mem hm] at h1;omega
    · exact Nat.le_succ_of_le (bC n l hd fun y hy=>by
        have:=h y hy
        have h3:y≠n:=fun e=>hm (e▸hy)
        omega)
theorem pW {α:Type} {l:List α} {i:Nat} {a:α} (h:i<l.length):l.getD i a=l[i]:=by rw [List.getD_eq_getElem?_getD,List.getElem?_eq_getElem h];rfl
theorem Vk {es:List (Int×Int)}:∀ (l pre:List Int),Ep es pre l=true→l.Nodup∧∀ x∈l,x∉pre
  | [],_,_=>⟨by simp,by simp⟩
  | x::l,pre,h=>by
    rw [Ep] at h
    simp only [Bool.and_eq_true,Bool.not_eq_true'] at h
    obtain ⟨h1,h2⟩:=Vk l (pre++[x]) h.2.2
    have hx:x∉pre:=by
      have:=h.1
      rw [← Bool.not_eq_true,List.contains_iff_mem] at this
      exact this
    refine ⟨List.nodup_cons.2 ⟨fun hm=>h2 x hm sM,h1⟩,fun y hy hm=>?_⟩
    rcases List.mem_cons.1 hy with rfl | hy
    · exact hx hm
    · exact h2 y hy (List.mem_append_left _ hm)
theorem zI {c:Ctx} {G:Ghost} {H:List Res} {w:World} {e k n:Nat} {v:Value} {xs ys:List Value} (hs:St c G (.row e k v n xs::H) w) (h:xs=ys):St c G (.row e k v n ys::H) w:=h▸hs
theorem Vl {G:Ghost} {v:Value} {l:List Nat} (h:Cr G v l):Bt G v (l.map fun x:Nat=>(x:Int)):=by
  show Sl G v 1 (List.map _ l).length (List.map _ (List.map _ l))
  rw [List.length_map,List.map_map];exact h
def cI (a b:Int):Nat→List (Int×Int)→Int
  | _,[]=>-1
  | i,e::l=>if e.1=a∧e.2=b then (i:Int) else cI a b (i+1) l
theorem fQ {a b:Int}:∀ (l:List (Int×Int)) (i:Nat),0≤cI a b i l↔(a,b)∈l
  | [],i=>by simp [cI]
  | e::l,i=>by
    rw [cI,List.mem_cons]
    split
    · rename_i h
      obtain ⟨e1,e2⟩:=e
      dsimp only at h
      constructor
      · intro _;left;rw [h.1,h.2]
      · intro _;omega
    · rename_i h
      rw [fQ l (i+1)]
      constructor
      · intro h2;exact .inr h2
      · rintro (h2 | h2)
        · exact absurd ⟨by rw [← h2],by rw [← h2]⟩ h
        · exact h2
theorem redg_ok {G:Ghost} {a b:Int} {wp wr:Value} {An Ae:Option Addr} {nn cn ce:Nat} {es:List (Int×Int)} (hE:kU G (.slice Ae es.length ce) es) (hez:es.length≤1000) :
  Ai prog 81 [.agg #[wp,.slice An nn cn,.slice Ae es.length ce,wr],Vi a,Vi b] G [] fun r _ H'=>H'=[]∧r=Vi (cI a b 0 es):=by
 refine Ai.of_T [(0,_),(1,_),(2,_)] func81 rfl ntmps81 sM rfl fun w0 hs=>?_
 have hE0:=hE
 refine Wt 2 [] hs rfl<|O_s (Sb hs rfl fun b3 _ hs=>Wp 7 [0,0] hs rfl<|Zl [1,2,3,7] (fun m E w=>∃ (k:Nat) (G2:Ghost),k≤es.length∧cI a b 0 es=cI a b k (es.drop k)∧m=es.length-k∧E=⟨[],[(1,Vi a),(2,Vi b),(3,Vp b3),(7,Vi (k:Int))]⟩∧St ⟨w0,G,Bl []⟩ G2 [.blk b3 43 [wp,.slice An nn cn,.slice Ae es.length ce,wr]] w) rfl (⟨0,_,by omega,rfl,rfl,rfl,hs⟩) fun m E w hI=>?_)
 obtain ⟨k,G2,hk,hfo,rfl,rfl,hs⟩:=hI
 have hE:=hE0.mono hs.le
 refine Wt 7 [2,0] hs rfl<|Zy hs (Yc rfl (fun h12=>?_) fun h12=>?_)
 ·
  refine Wp 3 [0] hs rfl ?_
  obtain ⟨e,hee⟩:∃ z,z=es[k]'oM:=⟨_,rfl⟩
  refine Wu 7 [2,0] hs rfl<|Zy hs (Bv hE k underlying40 sizeOf70 rfl rfl rfl oM fun p18 c18 hp18 hc18 hR18=>?_)
  rw [← hee] at hR18
  obtain rfl:c18=[Vi e.1,Vi e.2]:=hR18
  refine Zy hs (Jx 0 underlying70 sizeOf3 rfl rfl rfl dC<|Zy hs (Yg rfl (hp18 0 (Vi e.1) rfl)<|Wp 1 [] hs rfl<|Zy hs (Yc rfl (fun h22=>?_) fun h22=>?_)))
  ·
   refine Wp 4 [2,0] hs rfl<|Zg hs rfl (Bv hE k underlying40 sizeOf70 rfl rfl rfl oM fun p27 c27 hp27 hc27 hR27=>?_)
   rw [← hee] at hR27
   obtain rfl:c27=[Vi e.1,Vi e.2]:=hR27
   refine Zg hs rfl (Jx 1 underlying70 sizeOf3 rfl rfl rfl dC<|Zg hs rfl (Yg rfl (hp27 1 (Vi e.2) rfl)<|Wp 1 [] hs rfl<|Zg hs rfl (Yc rfl (fun h31=>?_) fun h31=>?_)))
   ·
    refine Wp 8 [5,1,2,3,7,32,0] hs rfl<|Ah<|Zz results81 rfl ?_
    exact ⟨_,[],hs.done,rfl,congrArg (Value.int .i64) (by rw [hfo,List.drop_eq_getElem_cons oM,← hee,cI,if_pos oM])⟩
   refine Wp 6 [5,1,2,3,7,32] hs rfl<|Zy hs (Ya (s:=((k+1:Nat):Int)) rfl<|Wp 1 [] hs rfl<|Zx [1,2,3,7] rfl ⟨k+1,_,by omega,by rw [hfo,List.drop_eq_getElem_cons oM,← hee,cI,if_neg oM],rfl,rfl,hs.weak hs.le (gLr _) (lSa [_] _)⟩)
  refine Wp 15 [5,1,2,3,7,32] hs rfl<|Zy hs (Ya (s:=((k+1:Nat):Int)) rfl<|Wp 1 [] hs rfl<|Zx [1,2,3,7] rfl ⟨k+1,_,by omega,by rw [hfo,List.drop_eq_getElem_cons oM,← hee,cI,if_neg oM],rfl,rfl,hs.weak hs.le (gLr _) (lSa [_] _)⟩)
 refine Wp 3 [0] hs rfl<|Wu 4 [0] hs rfl<|Ah<|Zz results81 rfl ?_
 obtain rfl:k=es.length:=by omega
 rw [List.drop_length] at hfo
 exact ⟨_,[],hs.done,rfl,congrArg (Value.int .i64) hfo.symm⟩
end Go.Proofs.YtngdgnolkilheaaGreatDoor
namespace Go.Proofs.YtngdgnolkilheaaGreatDoor
open Go Go.Ex
theorem tJ (k:Nat):¬ Dd k=tX:=by
 intro h
 have h2:=congrArg By.blocks h
 unfold Dd at h2
 split at h2<;>cases h2
structure Us where
 size:Nat
 progs:List Nat
 nodes:List Nat
 edges:Nat
 routes:List Nat
structure Us.ok (x:Us):Prop where
 p:x.progs.length=4
 n:x.nodes.length=5
 r:x.routes.length=3
 rl:∀ z∈x.routes,z<65536
def Jv (s:Nat):Nat:=2+s % 3
def Ed (s:Nat):Nat:=2+s / 3 % 4
def Pv (s:Nat):Nat:=1+s / 12 % 3
def Jk (k:Nat):Nat:=1+k / 8 % 3
def Lf (np k:Nat):List Int:=(List.range (Jk k)).map fun j=>(((k / 24+j*(1+k / 96 % 2)) % np:Nat):Int)
def Qw (np k:Nat):Lw:=⟨Lf np k,((k / 2 % Jk k:Nat):Int),((k / 2 % Jk k:Nat):Int),decide (0<k % 8)⟩
def Ib (e i k:Nat):Bool:=decide (¬ i=k) && (decide (k=i+1) || decide (e / 2 ^ (5*i+k) % 2=1))
def Mr (e i n:Nat):List (Int×Int):=((List.range n).filter (Ib e i)).map fun k:Nat=>((i:Int),(k:Int))
def Ea (e n:Nat):List (Int×Int):=(List.range n).flatMap fun i=>Mr e i n
def Dt (es:List (Int×Int)) (n:Nat) (l:List Nat):List Nat:=(List.range n).filter fun k:Nat=>decide ((((l.getLastD 0:Nat):Int),(k:Int))∈es) && !(l.contains k)
def Iz (es:List (Int×Int)) (n:Nat):Nat→List Nat→Nat→List Nat
 | 0,l,_=>l
 | f+1,l,x=>if n≤l.length then l else if Dt es n l=[]∨(1<l.length∧x % 4=3) then l
  else Iz es n f (l++[(Dt es n l).getD (x / 4 % (Dt es n l).length) 0]) ((x / 8+x*8191) % 65536)
def Fb (es:List (Int×Int)) (n x:Nat):List Nat:=Iz es n n [x % (n-1)] (x / 5)
def Ga (x:Us):Bw :=
 let np:=Jv x.size;let n:=Ed x.size;let es:=Ea x.edges n
 ⟨(x.progs.take np).map fun k=>Dd (k % 14),(x.nodes.take n).map (Qw np),es,(x.routes.take (Pv x.size)).map fun r=>Nm (Fb es n r)⟩
theorem dZ {n:Int}:∀ (l s:List (Int×Int)),(∀ e∈l,e∉s)→l.Nodup→(∀ e∈l,Rc e.1 n=true∧Rc e.2 n=true∧¬ e.1=e.2)→Hn n s l=true
 | [],_,_,_,_=>rfl
 | e::l,s,h1,h2,h3=>by
  obtain ⟨h4,h5,h6⟩:=h3 e List.mem_cons_self
  have h2':=List.nodup_cons.1 h2
  have ih:=dZ l (s++[e]) (fun z hz hm=>by
   rcases List.mem_append.1 hm with hm | hm
   ·exact h1 z (List.mem_cons_of_mem _ hz) hm
   ·exact h2'.1 (by rw [← List.mem_singleton.1 hm];exact hz)) h2'.2 (fun z hz=>h3 z (List.mem_cons_of_mem _ hz))
  rw [Hn,ih,h4,h5,decide_eq_false (h1 e List.mem_cons_self),decide_eq_false h6];rfl
theorem Vm {e n:Nat} {p:Int×Int}:p∈Ea e n↔∃ i k:Nat,i<n∧k<n∧Ib e i k=true∧p=((i:Int),(k:Int)):=by
 unfold Ea Mr
 rw [List.mem_flatMap]
 constructor
 ·rintro ⟨i,hi,h⟩
  obtain ⟨k,hk,rfl⟩:=List.mem_map.1 h
  rw [List.mem_filter,List.mem_range] at hk
  exact ⟨i,k,List.mem_range.1 hi,hk.1,hk.2,rfl⟩
 ·rintro ⟨i,k,hi,hk,h,rfl⟩
  exact ⟨i,List.mem_range.2 hi,List.mem_map.2 ⟨k,List.mem_filter.2 ⟨List.mem_range.2 hk,h⟩,rfl⟩⟩
theorem cJ (e i n:Nat):(Mr e i n).Nodup:=by
 unfold Mr
 have h0:((List.range n).filter (Ib e i)).Nodup:=((List.pairwise_lt_range (n:=n)).imp (fun h=>Nat.ne_of_lt h)).filter _
 refine List.Pairwise.map _ (fun a b h e=>h ?_) h0
 injection e with e1 e2
 omega
theorem cK (e n:Nat):(Ea e n).Nodup:=by
 unfold Ea
 rw [List.Nodup,List.pairwise_flatMap]
 refine ⟨fun i _=>cJ e i n,(List.pairwise_lt_range (n:=n)).imp ?_⟩
 intro a b hab x hx y hy hxy
 unfold Mr at hx hy
 obtain ⟨k,_,rfl⟩:=List.mem_map.1 hx
 obtain ⟨m,_,rfl⟩:=List.mem_map.1 hy
 injection hxy with h1 h2
 omega
theorem mX (e n:Nat):Gk n (Ea e n)=true:=by
 refine dZ _ [] Dr (cK e n) fun p hp=>?_
 obtain ⟨i,k,hi,hk,h,rfl⟩:=Vm.1 hp
 unfold Ib at h
 simp only [Bool.and_eq_true,decide_eq_true_iff] at h
 exact ⟨Hz.2 (by constructor<;>(show _;dsimp only;omega)),Hz.2 (by constructor<;>(show _;dsimp only;omega)),by dsimp only;omega⟩
theorem fR {e n i:Nat} (h:i+1<n):((i:Int),((i+1:Nat):Int))∈Ea e n :=
 Vm.2 ⟨i,i+1,by omega,h,by unfold Ib;simp,rfl⟩
theorem Vo {es:List (Int×Int)} {y:Int}:∀ (l pre:List Int),Ep es pre (l++[y])=(Ep es pre l && (!((pre++l).contains y) && Sx es (pre++l).getLast? y))
 | [],pre=>by
  rw [List.nil_append,Ep,List.append_nil]
  show (!(pre.contains y) && (Sx es pre.getLast? y && Ep es (pre++[y]) []))=(true && _)
  rw [Ep,Bool.and_true,Bool.true_and]
 | x::l,pre=>by
  rw [List.cons_append,Ep,Ep,Vo l (pre++[x]),List.append_assoc,List.singleton_append]
  simp only [Bool.and_assoc]
structure Vq (es:List (Int×Int)) (n:Nat) (l:List Nat):Prop where
 g:Ep es [] (Nm l)=true
 n0:1≤l.length
 rng:∀ y∈l,y<n
theorem jY {es:List (Int×Int)} {n k:Nat} {l:List Nat}:k∈Dt es n l↔k<n∧(((l.getLastD 0:Nat):Int),(k:Int))∈es∧k∉l:=by
 unfold Dt
 rw [List.mem_filter,List.mem_range,Bool.and_eq_true,decide_eq_true_iff,Bool.not_eq_true',← Bool.not_eq_true,List.contains_iff_mem]
theorem Vq.snoc {es:List (Int×Int)} {n k:Nat} {l:List Nat} (h:Vq es n l) (hk:k∈Dt es n l):Vq es n (l++[k]):=by
 obtain ⟨h1,h2,h3⟩:=jY.1 hk
 refine ⟨?_,by simp,fun y hy=>?_⟩
 ·have e:Nm (l++[k])=Nm l++[(k:Int)]:=by unfold Nm;simp
  rw [e,Vo,h.g,List.nil_append,Bool.true_and,Bool.and_eq_true]
  refine ⟨?_,?_⟩
  ·rw [Bool.not_eq_true',← Bool.not_eq_true,List.contains_iff_mem,zH];exact h3
  ·have hl:(Nm l).getLast?=some ((l.getLastD 0:Nat):Int):=by
    unfold Nm
    rw [List.getLast?_map,List.getLastD_eq_getLast?]
    cases e2:l.getLast? with
    | none=>rw [List.getLast?_eq_none_iff] at e2;rw [e2] at h;exact absurd h.n0 Dr
    | some z=>rfl
   rw [hl];exact decide_eq_true h2
 ·rcases List.mem_append.1 hy with hy | hy
  ·exact h.rng y hy
  ·rw [List.mem_singleton.1 hy];exact h1
theorem jZ {es:List (Int×Int)} {n x:Nat} {l:List Nat} (h:¬ Dt es n l=[]):x % (Dt es n l).length<(Dt es n l).length∧(Dt es n l).getD (x % (Dt es n l).length) 0∈Dt es n l:=by
 have h1:x % (Dt es n l).length<(Dt es n l).length:=Nat.mod_lt _ (by
  cases e:Dt es n l with
  | nil=>exact absurd e h
  | cons _ _=>simp)
 exact ⟨h1,by rw [pW h1];exact List.getElem_mem _⟩
theorem pX {es:List (Int×Int)} {n:Nat}:∀ (f:Nat) (l:List Nat) (x:Nat),Vq es n l→Vq es n (Iz es n f l x)∧l.length≤(Iz es n f l x).length
 | 0,l,_,h=>⟨h,Nat.le_refl _⟩
 | f+1,l,x,h=>by
  rw [Iz]
  split
  ·exact ⟨h,Nat.le_refl _⟩
  ·split
   ·exact ⟨h,Nat.le_refl _⟩
   ·rename_i h1 h2
    have h3:=jZ (x:=x / 4) (fun e=>h2 (.inl e))
    have ih:=pX f _ ((x / 8+x*8191) % 65536) (h.snoc h3.2)
    exact ⟨ih.1,Nat.le_trans (by rw [List.length_append];omega) ih.2⟩
theorem Vq.len {es:List (Int×Int)} {n:Nat} {l:List Nat} (h:Vq es n l):l.length≤n:=by
 refine bC n l ?_ h.rng
 have:=(Vk _ _ h.g).1
 unfold Nm at this
 exact List.Pairwise.of_map _ (fun a b h e=>h (by rw [e])) this
theorem mY {e n x:Nat} (h2:2≤n) (h12:n≤12):Gg (Ea e n) (Nm (Fb (Ea e n) n x))=true∧(∀ y∈Fb (Ea e n) n x,y<n)∧2≤(Fb (Ea e n) n x).length∧(Fb (Ea e n) n x).length≤n:=by
 have ha:x % (n-1)<n-1:=Nat.mod_lt _ Dz
 have h0:Vq (Ea e n) n [x % (n-1)]:=⟨by
  show Ep _ [] [((x % (n-1):Nat):Int)]=true
  rw [Ep,Ep];rfl,by simp,fun y hy=>by rw [List.mem_singleton.1 hy];omega⟩
 have hr:Fb (Ea e n) n x=Iz (Ea e n) n n [x % (n-1)] (x / 5):=rfl
 obtain ⟨m,rfl⟩:∃ m,n=m+1:=⟨n-1,by omega⟩
 have ho:¬ Dt (Ea e (m+1)) (m+1) [x % (m+1-1)]=[]:=by
  intro he
  have:x % (m+1-1)+1∈Dt (Ea e (m+1)) (m+1) [x % (m+1-1)]:=jY.2 ⟨by omega,fR (i:=x % (m+1-1)) Dz,by simp⟩
  rw [he] at this;cases this
 have h3:=jZ (x:=x / 5 / 4) ho
 rw [Iz,if_neg Nj,if_neg (fun h=>by rcases h with h | h;exact ho h;exact absurd h.1 Dr)] at hr
 have hg:=pX m _ ((x / 5 / 8+x / 5*8191) % 65536) (h0.snoc h3.2)
 rw [← hr] at hg
 have hl:=hg.1.len
 have hl2:2≤(Fb (Ea e (m+1)) (m+1) x).length:=by have:=hg.2;rw [List.length_append] at this;exact this
 refine ⟨?_,hg.1.rng,hl2,hl⟩
 unfold Gg
 rw [Bool.and_eq_true]
 exact ⟨decide_eq_true (by unfold Nm;rw [List.length_map];omega),hg.1.g⟩
theorem fS {x:Us} (hx:x.ok):(Ga x).nodes.length=Ed x.size:=by
 show (List.map _ _).length=_
 rw [List.length_map,List.length_take,hx.n];unfold Ed;omega
theorem fT {x:Us} (hx:x.ok):(Ga x).progs.length=Jv x.size:=by
 show (List.map _ _).length=_
 rw [List.length_map,List.length_take,hx.p];unfold Jv;omega
theorem fU {x:Us} (hx:x.ok):(Ga x).routes.length=Pv x.size:=by
 show (List.map _ _).length=_
 rw [List.length_map,List.length_take,hx.r];unfold Pv;omega
theorem Kw (s:Nat):2≤Ed s∧Ed s≤5:=by unfold Ed;omega
theorem Th (s:Nat):2≤Jv s∧Jv s≤4:=by unfold Jv;omega
theorem Ti (s:Nat):1≤Pv s∧Pv s≤3:=by unfold Pv;omega
theorem Tj (k:Nat):1≤Jk k∧Jk k≤3:=by unfold Jk;omega
theorem tK {np k:Nat} (h:1≤np):Ij np (Qw np k)=true:=by
 have hv:=Tj k
 have hl:(Qw np k).vers.length=Jk k:=by show (List.map _ _).length=_;rw [List.length_map,List.length_range]
 have hr:k / 2 % Jk k<Jk k:=Nat.mod_lt _ Dz
 unfold Ij
 rw [hl]
 simp only [Bool.and_eq_true,decide_eq_true_iff]
 refine ⟨by omega,?_,Hz.2 ?_,Hz.2 ?_⟩
 ·rw [List.all_eq_true]
  intro v hv
  obtain ⟨j,_,rfl⟩:=List.mem_map.1 hv
  have:=Nat.mod_lt (k / 24+j*(1+k / 96 % 2)) (show 0<np by omega)
  exact Hz.2 Dz
 ·show 0≤((k / 2 % Jk k:Nat):Int)∧((k / 2 % Jk k:Nat):Int)<_
  omega
 ·show 0≤((k / 2 % Jk k:Nat):Int)∧((k / 2 % Jk k:Nat):Int)<_
  omega
theorem Qx {x:Us} {r:List Int} (h:r∈(Ga x).routes):∃ l:List Nat,r=Nm l∧Gg (Ga x).edges r=true∧(∀ y∈l,y<Ed x.size)∧2≤l.length∧l.length≤Ed x.size:=by
 have h':r∈(x.routes.take (Pv x.size)).map fun r=>Nm (Fb (Ea x.edges (Ed x.size)) (Ed x.size) r):=h
 obtain ⟨z,_,rfl⟩:=List.mem_map.1 h'
 have:=mY (e:=x.edges) (n:=Ed x.size) (x:=z) (Kw _).1 (Nat.le_trans (Kw _).2 (by decide))
 exact ⟨_,rfl,this.1,this.2.1,this.2.2.1,this.2.2.2⟩
theorem fV {x:Us} (hx:x.ok):Dh (Ga x)=0:=by
 have hn:=fS hx;have hp:=fT hx;have hr:=fU hx
 have hn2:=Kw x.size;have hp2:=Th x.size;have hr2:=Ti x.size
 unfold Dh
 rw [if_neg Dz,if_neg Dz,if_neg,if_neg,if_neg,if_neg]
 ·rw [Bool.not_eq_false,List.all_eq_true]
  intro r h
  obtain ⟨_,_,h1,_⟩:=Qx h
  exact h1
 ·rw [Bool.not_eq_false,hn];exact mX _ _
 ·rw [Bool.not_eq_false,List.all_eq_true]
  intro y hy
  have hy':y∈(x.nodes.take (Ed x.size)).map (Qw (Jv x.size)):=hy
  obtain ⟨k,_,rfl⟩:=List.mem_map.1 hy'
  rw [hp];exact tK Dz
 ·rw [Bool.not_eq_false,List.all_eq_true]
  intro p h
  have h':p∈(x.progs.take (Jv x.size)).map fun k=>Dd (k % 14):=h
  obtain ⟨k,_,rfl⟩:=List.mem_map.1 h'
  exact decide_eq_true (tJ _)
theorem zJ {x:Us} (hx:x.ok):(fI (Ga x)).length≤12:=by
 have hr:=fU hx;have hr2:=Ti x.size;have hn2:=Kw x.size
 have key:∀ l:List (List Int),(∀ r∈l,r.length≤5)→(l.flatMap kW).length≤l.length*4:=by
  intro l
  induction l with
  | nil=>intro _;simp
  | cons r l ih =>
   intro h
   have h1:=h r List.mem_cons_self
   have h2:=ih fun z hz=>h z (List.mem_cons_of_mem _ hz)
   rw [List.flatMap_cons,List.length_append,fJ,List.length_cons];omega
 have:=key (Ga x).routes (fun r h=>by
  obtain ⟨l,rfl,_,_,_,h5⟩:=Qx h
  unfold Nm;rw [List.length_map];omega)
 unfold fI
 omega
end Go.Proofs.YtngdgnolkilheaaGreatDoor
namespace Go.Proofs.YtngdgnolkilheaaGreatDoor
open Go Go.Ex Go.RowKit Go.Proofs.Tryz
theorem rino_ok {G:Ghost} {v:Value} {l:List Nat} {x:Nat} {n:Nat} (hl:l.length=n) (hn:n≤1000000) :
  Ai prog 82 [v,Vi (x:Int)] G [.row 3 1 v n (l.map Cm)] fun r _ H'=>r=.bool (decide (x∈l))∧H'=[.row 3 1 v n (l.map Cm)]:=by
 subst hl
 refine Ai.of_T [(0,_),(1,_)] func82 rfl ntmps82 sM rfl fun w0 hs =>Wt 9 [0,0] hs rfl<|Zl [0,1,5] (fun m E w=>∃ (k:Nat) (G2:Ghost),k≤l.length∧x∉l.take k∧m=l.length-k∧E=⟨[],[(0,v),(1,Vi (x:Int)),(5,Vi (k:Int))]⟩∧St ⟨w0,G,Bl [.row 3 1 v l.length (l.map Cm)]⟩ G2 [.row 3 1 v l.length (l.map Cm)] w) rfl (⟨0,_,by omega,by simp,rfl,rfl,hs⟩) fun m E w hI=>?_
 obtain ⟨k,G2,hk,hx,rfl,rfl,hs⟩:=hI
 refine Wt 5 [] hs rfl<|Zy hs (Dq 0 rfl underlying33 rfl hs<|Zy hs (Yc rfl (fun h9=>?_) fun h9=>?_))
 ·
  refine Wp 9 [0] hs rfl<|Zy hs (Hd (j:=((k:Nat):Int)) (k) 0 rfl underlying33 sizeOf3 rfl rfl rfl oM (u:=Cm (l[k]'oM)) (Mk oM) hs fun p14 hp14 =>Zy hs (Iq isAgg3 rfl hp14<|Wp 1 [] hs rfl<|Zy hs (Yc rfl (fun h17=>?_) fun h17=>?_)))
  ·
   refine Wp 6 [0,0] hs rfl<|Ah<|Zz results82 rfl ?_
   exact ⟨_,_,hs,congrArg Value.bool (decide_eq_true (by rw [show x=l[k] from by omega];exact List.getElem_mem _)).symm,rfl⟩
  refine Wp 5 [0] hs rfl<|Zy hs (Ya (s:=((k+1:Nat):Int)) rfl<|Wp 1 [] hs rfl<|Zx [0,1,5] rfl ⟨k+1,_,by omega,by rw [Eh oM];intro h;rcases List.mem_append.1 h with h | h;exact hx h;exact h17 (by rw [List.mem_singleton.1 h]),rfl,rfl,hs⟩)
 refine Wp 3 [0] hs rfl<|Wu 4 [0] hs rfl<|Ah<|Zz results82 rfl ?_
 obtain rfl:k=l.length:=by omega
 rw [List.take_length] at hx
 exact ⟨_,_,hs,congrArg Value.bool (decide_eq_false hx).symm,rfl⟩
def Ot (es:List (Int×Int)) (l:List Nat) (k:Nat):List Nat:=(List.range k).filter fun k:Nat=>decide ((((l.getLastD 0:Nat):Int),(k:Int))∈es) && !(l.contains k)
theorem optsK_T {es:List (Int×Int)} {l:List Nat} {k:Nat} (h1:(((l.getLastD 0:Nat):Int),(k:Int))∈es) (h2:k∉l):Ot es l (k+1)=Ot es l k++[k]:=by
  unfold Ot;rw [List.range_succ,List.filter_append];simp only [List.filter_cons,List.filter_nil]
  rw [if_pos (by rw [Bool.and_eq_true];exact ⟨decide_eq_true h1,by simpa using h2⟩)]
theorem pY {es:List (Int×Int)} {l:List Nat} {k:Nat} (h:¬ ((((l.getLastD 0:Nat):Int),(k:Int))∈es∧k∉l)):Ot es l (k+1)=Ot es l k:=by
  unfold Ot;rw [List.range_succ,List.filter_append];simp only [List.filter_cons,List.filter_nil]
  rw [if_neg bT,List.append_nil]
theorem kA (es:List (Int×Int)) (l:List Nat) (k:Nat):(Ot es l k).length≤k:=by
  unfold Ot;exact Nat.le_trans (List.length_filter_le _ _) sM
theorem tL (es:List (Int×Int)) (l:List Nat) (n:Nat):Ot es l n=Dt es n l:=rfl
theorem zK {l:List Nat} (h:1≤l.length):(l.map Cm)[l.length-1]?=some (Cm (l.getLastD 0)):=by
  rw [List.getElem?_map,List.getLastD_eq_getLast?,List.getLast?_eq_getElem?]
  rw [List.getElem?_eq_getElem oM];rfl
theorem pZ {es:List (Int×Int)} {n f x:Nat} {l:List Nat} (h1:l.length<n) (h2:¬ Dt es n l=[]) (h3:¬ (1<l.length∧x % 4=3)):Iz es n (f+1) l x=Iz es n f (l++[(Dt es n l).getD (x / 4 % (Dt es n l).length) 0]) ((x / 8+x*8191) % 65536):=by
  rw [Iz,if_neg oM,if_neg (by rintro (h | h);exact h2 h;exact h3 h)]
theorem Ut {es:List (Int×Int)} {n f x:Nat} {l:List Nat} (h:n≤l.length∨Dt es n l=[]∨(1<l.length∧x % 4=3)):Iz es n f l x=l:=by
  cases f with
  | zero=>rfl
  | succ f =>
    rw [Iz]
    split
    · rfl
    · rename_i h1
      rw [if_pos (by rcases h with h | h | h;exact absurd h h1;exact .inl h;exact .inr h)]
def tM (l:List Nat) (i:Nat):Nat:=l.getD i 0
theorem kB {l:List Nat} {i:Nat} (h:i<l.length):(l.map Cm)[i]?=some (Cm (tM l i)):=by
  unfold tM;rw [List.getElem?_map,List.getElem?_eq_getElem h,pW h];rfl
theorem rrou_ok {G:Ghost} {x0:Nat} {wp wr:Value} {An Ae:Option Addr} {nn cn ce:Nat} {es:List (Int×Int)} (hE:kU G (.slice Ae es.length ce) es) (hez:es.length≤1000) (hx0:x0<65536) (hn2:2≤nn) (hn12:nn≤12) :
  Ai prog 53 [.agg #[wp,.slice An nn cn,.slice Ae es.length ce,wr],.int .u16 (x0:Int)] G [] fun r G' H'=>H'=[]∧Cr G' r (Fb es nn x0):=by
 refine Ai.of_T [(0,_),(1,_)] func53 rfl ntmps53 sM rfl fun w0 hs=>?_
 have hE0:=hE
 refine Wt 2 [] hs rfl<|O_s (Sb hs rfl fun b2 _ hs=>Wp 12 [0,1,0,0] hs rfl<|Zy hs (Dj underlying25 underlying3 (c:=(x0:Int)) rfl Z40<|Wp 1 [] hs rfl<|Zy hs (Fc (c:=((nn-1:Nat):Int)) rfl rfl oM oM<|Zy hs (Er (c:=((x0 % (nn-1):Nat):Int)) rfl rfl oM oM (Int.natCast_emod _ _).symm<|O_s (Ca hs underlying33 sizeOf3 zeroValue3 rfl rfl dC dC rfl (cs:=[_]) rfl rfl fun v1 _ hs _ =>Wp 5 [0] hs rfl<|Zy hs (Yy (c:=((x0 / 5:Nat):Int)) rfl rfl oM oM Z47<|Wp 2 [0] hs rfl ?_))))))
 have hs:=hs.f1.f1
 refine Wu 1 [] hs rfl<|Zl [1,2,5,6] (fun m E w=>∃ (l:List Nat) (x:Nat) (vr:Value) (G2:Ghost),Iz es nn nn [x0 % (nn-1)] (x0 / 5)=Iz es nn (nn+1-l.length) l x∧1≤l.length∧l.length≤nn∧x<65536∧m=nn-l.length∧E=⟨[],[(1,.int .u16 (x:Int)),(2,Vp b2),(5,Vi (nn:Int)),(6,vr)]⟩∧St ⟨w0,G,Bl []⟩ G2 [.row 3 1 vr l.length (l.map Cm),.blk b2 43 [wp,.slice An nn cn,.slice Ae es.length ce,wr]] w) rfl (⟨[x0 % (nn-1)],x0 / 5,_,_,rfl,by simp,by simp;omega,by omega,rfl,rfl,hs⟩) fun m E w hI=>?_
 obtain ⟨l,x,vr,G2,hfo,hl1,hln,hx,rfl,rfl,hs⟩:=hI
 have hE:=hE0.mono hs.le
 refine Wt 4 [] hs rfl<|Zy hs (Dq 0 rfl underlying33 rfl hs<|Wp 1 [] hs rfl<|Zy hs (Yc rfl (fun h24=>?_) fun h24=>?_))
 ·
  refine Wp 8 [0] hs rfl<|Zy hs (Dq 0 rfl underlying33 rfl hs<|Zy hs (Fc (c:=((l.length-1:Nat):Int)) rfl rfl oM oM<|Zy hs (Hd (j:=((l.length-1:Nat):Int)) (l.length-1) 0 rfl underlying33 sizeOf3 rfl rfl rfl oM (u:=Cm (l.getLastD 0)) (zK hl1) hs fun p29 hp29 =>Zy hs (Iq isAgg3 rfl hp29<|Wp 4 [0] hs rfl<|O_s (Ca hs underlying33 sizeOf3 zeroValue3 rfl rfl dC dC rfl (cs:=[]) rfl rfl fun v2 _ hs _ =>Wp 7 [0,0] hs rfl ?_)))))
  have hs:=hs.f2.f2.f2
  refine Zl [1,2,5,6,7,8,9] (fun m E w=>∃ (k:Nat) (vo:Value) (G2:Ghost),k≤nn∧m=nn-k∧E=⟨[],[(1,.int .u16 (x:Int)),(2,Vp b2),(5,Vi (nn:Int)),(6,vr),(7,Vi ((l.getLastD 0):Int)),(8,vo),(9,Vi (k:Int))]⟩∧St ⟨w0,G,Bl []⟩ G2 [.row 3 1 vo (Ot es l k).length ((Ot es l k).map Cm),.row 3 1 vr l.length (l.map Cm),.blk b2 43 [wp,.slice An nn cn,.slice Ae es.length ce,wr]] w) rfl (⟨0,_,_,by omega,rfl,rfl,hs⟩) fun m E w hI=>?_
  obtain ⟨k,vo,G2,hk,rfl,rfl,hs⟩:=hI
  have hE:=hE0.mono hs.le
  refine Wt 5 [] hs rfl<|Zy hs (Yc rfl (fun h34=>?_) fun h34=>?_)
  ·
   refine Wp 10 [0,2] hs rfl<|O_s (Sc (redg_ok hE hez) hs rfl fun v3 G' H' _ hR hG40 hs=>?_)
   obtain ⟨rfl,rfl⟩:=hR
   replace hs:=hs.n rfl
   refine Zy hs (Yc rfl (fun h41=>?_) fun h41=>?_)
   ·
    refine Wp 3 [] hs rfl<|Ch 42 rfl rfl (Sc (rino_ok (l:=l) (x:=k) rfl oM) hs.f1 rfl fun v4 G' H' _ hR hG45 hs=>?_)
    obtain ⟨rfl,rfl⟩:=hR
    replace hs:=hs.n rfl
    cases h45:decide (k∈l)
    ·
     refine Wp 7 [0] hs rfl<|O_s (Ca hs underlying33 sizeOf3 zeroValue3 rfl rfl dC dC rfl (cs:=[_]) rfl rfl fun v5 _ hs _=>?_)
     obtain ⟨_,hG50,hl50,hs⟩:=hs.fixRow noM
     refine O_s (Bf hs.f1 underlying33 Lb rfl dC rfl rfl (hl50) (Fj rfl) (by have:=kA es l k;omega) (by have:=kA es l k;omega) fun v6 _ hs =>Wp 4 [7,1,2,5,6,7,8,9] hs rfl<|Zy hs (Ya (s:=((k+1:Nat):Int)) rfl<|Wp 1 [] hs rfl ?_))
     have hs:=hs.f2.f2.f2
     refine Zx [1,2,5,6,7,8,9] rfl ⟨k+1,_,_,by omega,rfl,rfl,Bz (hs.weak hs.le (gLr _) (lSa [_,_,_] _)) (by rw [optsK_T ((fQ _ _).1 h41) (of_decide_eq_false h45)];simp [Cm])⟩
    refine Wp 7 [0] hs rfl<|Zy hs (Ya (s:=((k+1:Nat):Int)) rfl<|Wp 1 [] hs rfl ?_)
    have hs:=hs.f2.f1.f2
    refine Zx [1,2,5,6,7,8,9] rfl ⟨k+1,_,_,by omega,rfl,rfl,Bz (hs) (by rw [pY (fun h=>h.2 (of_decide_eq_true h45))])⟩
   refine Wp 11 [0] hs rfl<|Zy hs (Ya (s:=((k+1:Nat):Int)) rfl<|Wp 1 [] hs rfl ?_)
   have hs:=hs.f2.f2.f2
   refine Zx [1,2,5,6,7,8,9] rfl ⟨k+1,_,_,by omega,rfl,rfl,Bz (hs) (by rw [pY (fun h=>h41 ((fQ _ _).2 h.1))])⟩
  refine Wp 3 [0] hs rfl ?_
  have hkn:k=nn:=by omega
  rw [hkn,tL] at hs
  refine Wu 4 [] hs rfl<|Zy hs (Dq 0 rfl underlying33 rfl hs<|Zy hs (Yc rfl (fun h54=>?_) fun h54=>?_))
  ·
   refine Wp 5 [] hs rfl<|Ec 59 rfl rfl<|Ec 59 rfl rfl<|Ec 59 rfl rfl<|Wp 5 [0] hs rfl<|Wu 5 [0] hs rfl<|Ah ?_
   have hs:=hs.f1
   obtain ⟨_,hG_hfr,hfr,hs⟩:=hs.fixRow noM
   refine Zz results53 rfl ?_
   have hfin:Fb es nn x0=l:=by rw [show Fb es nn x0=Iz es nn nn [x0 % (nn-1)] (x0 / 5) from rfl,hfo];exact Ut (.inr (.inl (List.eq_nil_of_length_eq_zero oM)))
   exact ⟨_,[],hs.done,rfl,by rw [hfin];exact hfr⟩
  refine Wp 2 [] hs rfl<|Zg hs rfl (Dq 1 rfl underlying33 rfl hs<|Zg hs rfl (Yc rfl (fun h58=>?_) fun h58=>?_))
  ·
   refine Wp 2 [] hs rfl<|Zg hs rfl (Er (c:=((x % 4:Nat):Int)) rfl rfl oM oM oM<|Zg hs rfl (Yc rfl (fun h62=>?_) fun h62=>?_))
   ·
    refine Wp 5 [0] hs rfl<|Wu 5 [1,4] hs rfl<|Ah ?_
    have hs:=hs.f1
    obtain ⟨_,hG_hfr,hfr,hs⟩:=hs.fixRow noM
    refine Zz results53 rfl ?_
    have hfin:Fb es nn x0=l:=by rw [show Fb es nn x0=Iz es nn nn [x0 % (nn-1)] (x0 / 5) from rfl,hfo];exact Ut (.inr (.inr oM))
    exact ⟨_,[],hs.done,rfl,by rw [hfin];exact hfr⟩
   refine Wp 5 [0] hs rfl ?_
   have hopos:0<(Dt es nn l).length:=by omega
   have hol:x / 4 % (Dt es nn l).length<(Dt es nn l).length:=Nat.mod_lt _ hopos
   have hou:=kB hol
   have hgo:=pZ (es:=es) (n:=nn) (f:=nn-l.length) (x:=x) (l:=l) oM (fun e=>by rw [e] at hopos;exact absurd hopos sM) oM
   refine Wu 5 [] hs rfl<|Zy hs (Yy (c:=((x / 4:Nat):Int)) rfl rfl oM oM Z47<|Zy hs (Dj underlying25 underlying3 (c:=((x / 4:Nat):Int)) rfl Z40<|Wp 1 [] hs rfl<|Zy hs (Dq 0 rfl underlying33 rfl hs<|Zy hs (Er (c:=((x / 4 % (Dt es nn l).length:Nat):Int)) rfl rfl oM oM (Int.natCast_emod _ _).symm<|Zy hs (Hd (j:=((x / 4 % (Dt es nn l).length:Nat):Int)) (x / 4 % (Dt es nn l).length) 0 rfl underlying33 sizeOf3 rfl rfl rfl hol (u:=Cm (tM (Dt es nn l) (x / 4 % (Dt es nn l).length))) hou hs fun p73 hp73 =>Zy hs (Iq isAgg3 rfl hp73<|O_s (Ca hs underlying33 sizeOf3 zeroValue3 rfl rfl dC dC rfl (cs:=[_]) rfl rfl fun v7 _ hs _=>?_)))))))
   obtain ⟨_,hG75,hl75,hs⟩:=hs.fixRow noM
   refine O_s (Bf hs.f1 underlying33 Lb rfl dC rfl rfl (hl75) (Fj rfl) oM Nj fun v8 _ hs =>Wp 4 [4,1,2,5,6] hs rfl<|Zy hs (Yy (c:=((x / 8:Nat):Int)) rfl rfl oM oM Z47<|Wp 1 [] hs rfl<|Zy hs (uW (c:=((x*8191 % 65536:Nat):Int)) rfl rfl Z47<|Zy hs (uV (c:=(((x / 8+x*8191) % 65536:Nat):Int)) rfl rfl Z47<|Wp 1 [] hs rfl ?_))))
   have hs:=hs.f2.f1
   refine Cl ⟨_,?_,[(1,_),(2,_),(5,_),(6,_)],⟨rfl,rfl,rfl,rfl,trivial⟩,⟨l++[tM (Dt es nn l) (x / 4 % (Dt es nn l).length)],(x / 8+x*8191) % 65536,v8,_,by rw [hfo,show nn+1-l.length=(nn-l.length)+1 from by omega,hgo,List.length_append,List.length_singleton,show nn+1-(l.length+1)=nn-l.length from by omega];rfl,by simp,by simp;omega,by omega,rfl,rfl,Bz (hs.weak hs.le (gLr _) (lSa [_,_] _)) (by simp [Cm])⟩⟩
   (simp;omega)
  refine Wp 9 [0] hs rfl ?_
  have hopos:0<(Dt es nn l).length:=by omega
  have hol:x / 4 % (Dt es nn l).length<(Dt es nn l).length:=Nat.mod_lt _ hopos
  have hou:=kB hol
  have hgo:=pZ (es:=es) (n:=nn) (f:=nn-l.length) (x:=x) (l:=l) oM (fun e=>by rw [e] at hopos;exact absurd hopos sM) oM
  refine Wu 5 [] hs rfl<|Zy hs (Yy (c:=((x / 4:Nat):Int)) rfl rfl oM oM Z47<|Zy hs (Dj underlying25 underlying3 (c:=((x / 4:Nat):Int)) rfl Z40<|Wp 1 [] hs rfl<|Zy hs (Dq 0 rfl underlying33 rfl hs<|Zy hs (Er (c:=((x / 4 % (Dt es nn l).length:Nat):Int)) rfl rfl oM oM (Int.natCast_emod _ _).symm<|Zy hs (Hd (j:=((x / 4 % (Dt es nn l).length:Nat):Int)) (x / 4 % (Dt es nn l).length) 0 rfl underlying33 sizeOf3 rfl rfl rfl hol (u:=Cm (tM (Dt es nn l) (x / 4 % (Dt es nn l).length))) hou hs fun p73 hp73 =>Zy hs (Iq isAgg3 rfl hp73<|O_s (Ca hs underlying33 sizeOf3 zeroValue3 rfl rfl dC dC rfl (cs:=[_]) rfl rfl fun v9 _ hs _=>?_)))))))
  obtain ⟨_,hG75,hl75,hs⟩:=hs.fixRow noM
  refine O_s (Bf hs.f1 underlying33 Lb rfl dC rfl rfl (hl75) (Fj rfl) oM Nj fun v10 _ hs =>Wp 4 [4,1,2,5,6] hs rfl<|Zy hs (Yy (c:=((x / 8:Nat):Int)) rfl rfl oM oM Z47<|Wp 1 [] hs rfl<|Zy hs (uW (c:=((x*8191 % 65536:Nat):Int)) rfl rfl Z47<|Zy hs (uV (c:=(((x / 8+x*8191) % 65536:Nat):Int)) rfl rfl Z47<|Wp 1 [] hs rfl ?_))))
  have hs:=hs.f2.f1
  refine Cl ⟨_,?_,[(1,_),(2,_),(5,_),(6,_)],⟨rfl,rfl,rfl,rfl,trivial⟩,⟨l++[tM (Dt es nn l) (x / 4 % (Dt es nn l).length)],(x / 8+x*8191) % 65536,v10,_,by rw [hfo,show nn+1-l.length=(nn-l.length)+1 from by omega,hgo,List.length_append,List.length_singleton,show nn+1-(l.length+1)=nn-l.length from by omega];rfl,by simp,by simp;omega,by omega,rfl,rfl,Bz (hs.weak hs.le (gLr _) (lSa [_,_] _)) (by simp [Cm])⟩⟩
  (simp;omega)
 refine Wp 3 [0] hs rfl<|Wu 5 [0] hs rfl<|Ah ?_
 obtain ⟨_,hG_hfr,hfr,hs⟩:=hs.fixRow noM
 refine Zz results53 rfl ?_
 have hfin:Fb es nn x0=l:=by rw [show Fb es nn x0=Iz es nn nn [x0 % (nn-1)] (x0 / 5) from rfl,hfo];exact Ut (.inl oM)
 exact ⟨_,[],hs.done,rfl,by rw [hfin];exact hfr⟩
theorem PL43:places prog 43=some [(0,1),(1,1),(2,1),(3,1)]:=by kernel_rfl
theorem PL76:places prog 76=some [(0,1),(1,1),(2,1),(3,1)]:=by kernel_rfl
theorem TI102:TI prog 102 (.agg #[Vn,Vn]) 2 48:=TI.of kR
theorem TI70:TI prog 70 (.agg #[Vi 0,Vi 0]) 2 16:=TI.of kR
theorem TI76:TI prog 76 (.agg #[Vn,Vi 0,Vi 0,Vf]) 4 48:=TI.of kR
def bD (sz p0 p1 p2 p3 n0 n1 n2 n3 n4:UInt8) (ed r0 r1 r2:Nat):Us:=⟨sz.toNat,[p0.toNat,p1.toNat,p2.toNat,p3.toNat],[n0.toNat,n1.toNat,n2.toNat,n3.toNat,n4.toNat],ed,[r0,r1,r2]⟩
theorem fW {sz p0 p1 p2 p3 n0 n1 n2 n3 n4:UInt8} {ed r0 r1 r2:Nat} (h0:r0<65536) (h1:r1<65536) (h2:r2<65536):Us.ok (bD sz p0 p1 p2 p3 n0 n1 n2 n3 n4 ed r0 r1 r2):=⟨rfl,rfl,rfl,fun z hz=>by
  have hz':z∈[r0,r1,r2]:=hz
  simp only [List.mem_cons,List.not_mem_nil,or_false] at hz'
  rcases hz' with rfl | rfl | rfl<;>assumption⟩
theorem raw_p {sz p0 p1 p2 p3 n0 n1 n2 n3 n4:UInt8} {ed r0 r1 r2:Nat} {i:Nat} (h:i<Jv sz.toNat):∃ q:UInt8,([.int .u8 (sz.toNat:Int),.int .u8 (p0.toNat:Int),.int .u8 (p1.toNat:Int),.int .u8 (p2.toNat:Int),.int .u8 (p3.toNat:Int),.int .u8 (n0.toNat:Int),.int .u8 (n1.toNat:Int),.int .u8 (n2.toNat:Int),.int .u8 (n3.toNat:Int),.int .u8 (n4.toNat:Int),.int .u32 (ed:Int),.int .u16 (r0:Int),.int .u16 (r1:Int),.int .u16 (r2:Int)]:List Value)[1+i*1]?=some (.int .u8 (q.toNat:Int))∧(Ga (bD sz p0 p1 p2 p3 n0 n1 n2 n3 n4 ed r0 r1 r2)).progs[i]?=some (Dd (q.toNat % 14)):=by
  have h4:=(Th sz.toNat).2
  have e:(Ga (bD sz p0 p1 p2 p3 n0 n1 n2 n3 n4 ed r0 r1 r2)).progs[i]?=(([p0.toNat,p1.toNat,p2.toNat,p3.toNat]:List Nat)[i]?).map fun k=>Dd (k % 14):=by
    show (List.map _ (List.take (Jv sz.toNat) _))[i]?=_
    rw [List.getElem?_map,List.getElem?_take_of_lt h];rfl
  rw [e]
  match i,h with
  | 0,_=>exact ⟨p0,rfl,rfl⟩
  | 1,_=>exact ⟨p1,rfl,rfl⟩
  | 2,_=>exact ⟨p2,rfl,rfl⟩
  | 3,_=>exact ⟨p3,rfl,rfl⟩
  | i+4,h=>omega
theorem raw_n {sz p0 p1 p2 p3 n0 n1 n2 n3 n4:UInt8} {ed r0 r1 r2:Nat} {i:Nat} (h:i<Ed sz.toNat):∃ q:UInt8,([.int .u8 (sz.toNat:Int),.int .u8 (p0.toNat:Int),.int .u8 (p1.toNat:Int),.int .u8 (p2.toNat:Int),.int .u8 (p3.toNat:Int),.int .u8 (n0.toNat:Int),.int .u8 (n1.toNat:Int),.int .u8 (n2.toNat:Int),.int .u8 (n3.toNat:Int),.int .u8 (n4.toNat:Int),.int .u32 (ed:Int),.int .u16 (r0:Int),.int .u16 (r1:Int),.int .u16 (r2:Int)]:List Value)[5+i*1]?=some (.int .u8 (q.toNat:Int))∧(Ga (bD sz p0 p1 p2 p3 n0 n1 n2 n3 n4 ed r0 r1 r2)).nodes[i]?=some (Qw (Jv sz.toNat) q.toNat):=by
  have h4:=(Kw sz.toNat).2
  have e:(Ga (bD sz p0 p1 p2 p3 n0 n1 n2 n3 n4 ed r0 r1 r2)).nodes[i]?=(([n0.toNat,n1.toNat,n2.toNat,n3.toNat,n4.toNat]:List Nat)[i]?).map (Qw (Jv sz.toNat)):=by
    show (List.map _ (List.take (Ed sz.toNat) _))[i]?=_
    rw [List.getElem?_map,List.getElem?_take_of_lt h];rfl
  rw [e]
  match i,h with
  | 0,_=>exact ⟨n0,rfl,rfl⟩
  | 1,_=>exact ⟨n1,rfl,rfl⟩
  | 2,_=>exact ⟨n2,rfl,rfl⟩
  | 3,_=>exact ⟨n3,rfl,rfl⟩
  | 4,_=>exact ⟨n4,rfl,rfl⟩
  | i+5,h=>omega
theorem raw_r {sz p0 p1 p2 p3 n0 n1 n2 n3 n4:UInt8} {ed r0 r1 r2:Nat} (h0:r0<65536) (h1:r1<65536) (h2:r2<65536) {i:Nat} (h:i<Pv sz.toNat):∃ q:Nat,q<65536∧([.int .u8 (sz.toNat:Int),.int .u8 (p0.toNat:Int),.int .u8 (p1.toNat:Int),.int .u8 (p2.toNat:Int),.int .u8 (p3.toNat:Int),.int .u8 (n0.toNat:Int),.int .u8 (n1.toNat:Int),.int .u8 (n2.toNat:Int),.int .u8 (n3.toNat:Int),.int .u8 (n4.toNat:Int),.int .u32 (ed:Int),.int .u16 (r0:Int),.int .u16 (r1:Int),.int .u16 (r2:Int)]:List Value)[11+i*1]?=some (.int .u16 (q:Int))∧(Ga (bD sz p0 p1 p2 p3 n0 n1 n2 n3 n4 ed r0 r1 r2)).routes[i]?=some (Nm (Fb (Ea ed (Ed sz.toNat)) (Ed sz.toNat) q)):=by
  have h4:=(Ti sz.toNat).2
  have e:(Ga (bD sz p0 p1 p2 p3 n0 n1 n2 n3 n4 ed r0 r1 r2)).routes[i]?=(([r0,r1,r2]:List Nat)[i]?).map fun r=>Nm (Fb (Ea ed (Ed sz.toNat)) (Ed sz.toNat) r):=by
    show (List.map _ (List.take (Pv sz.toNat) _))[i]?=_
    rw [List.getElem?_map,List.getElem?_take_of_lt h];rfl
  rw [e]
  match i,h with
  | 0,_=>exact ⟨r0,by assumption,rfl,rfl⟩
  | 1,_=>exact ⟨r1,by assumption,rfl,rfl⟩
  | 2,_=>exact ⟨r2,by assumption,rfl,rfl⟩
  | i+3,h=>omega
theorem Pm {α:Type} {l:List α} {i:Nat} {a:α} (h:l[i]?=some a):l.take (i+1)=l.take i++[a]:=by rw [List.take_add_one,h];rfl
theorem pM.slices {G:Ghost} {a b:Value} {p:By} (h:pM G [a,b] p):∃ A1 k1 A2 k2,a=.slice A1 p.stmts.length k1∧b=.slice A2 p.blocks.length k2:=by
  obtain ⟨u,v,e,⟨h1,_⟩,⟨h2,_⟩⟩:=h
  injection e with e1 e2
  injection e2 with e2 _
  subst e1 e2
  obtain ⟨A1,k1,rfl⟩:=Be.slice h1
  obtain ⟨A2,k2,rfl⟩:=Be.slice h2
  exact ⟨_,_,_,_,rfl,rfl⟩
theorem gt_iff {z:Nat}:Il .gtr (z:Int) 0↔decide (0<z)=true:=by
  rw [decide_eq_true_iff];show (z:Int)>0↔_;omega
theorem shr32 (a k:Nat) (hk:k<32):(a:Int).fdiv (2 ^ (min ((k:Int)).toNat IntKind.u32.bits))=((a / 2 ^ k:Nat):Int):=by
  have h1:min ((k:Int)).toNat IntKind.u32.bits=k:=by show min ((k:Int)).toNat 32=k;omega
  rw [h1,Int.fdiv_eq_ediv_of_nonneg _ (Int.pow_nonneg dC)]
  push_cast;rfl
def kX (e n i:Nat):List (Int×Int):=(List.range i).flatMap fun i=>Mr e i n
def kC (e i k:Nat):List (Int×Int):=((List.range k).filter (Ib e i)).map fun k:Nat=>((i:Int),(k:Int))
theorem kD (e n i:Nat):kX e n (i+1)=kX e n i++kC e i n:=by
  unfold kX;rw [List.range_succ,List.flatMap_append];simp [Mr,kC]
theorem edQ_T {e i k:Nat} (h:Ib e i k=true):kC e i (k+1)=kC e i k++[((i:Int),(k:Int))]:=by
  unfold kC;rw [List.range_succ,List.filter_append];simp [h]
theorem zL {e i k:Nat} (h:Ib e i k=false):kC e i (k+1)=kC e i k:=by
  unfold kC;rw [List.range_succ,List.filter_append];simp [h]
theorem mZ (e i k:Nat):(kC e i k).length≤k:=by
  unfold kC;rw [List.length_map];exact Nat.le_trans (List.length_filter_le _ _) sM
theorem bE (e n:Nat):∀ i,(kX e n i).length≤i*n
  | 0=>by simp [kX]
  | i+1=>by rw [kD,List.length_append,Nat.succ_mul];have:=bE e n i;have:=mZ e i n;omega
theorem on_no {e i k:Nat} (h:i=k):Ib e i k=false:=by unfold Ib;simp [h]
theorem on_next {e i k:Nat} (h:k=i+1):Ib e i k=true:=by unfold Ib;subst h;simp
theorem zM {e i k:Nat} (h:¬ i=k) (h2:¬ k=i+1):Ib e i k=decide (e / 2 ^ (5*i+k) % 2=1):=by unfold Ib;simp [h,h2]
theorem tN {np q j:Nat} (h:j<Jk q):(Lf np q).take (j+1)=(Lf np q).take j++[(((q / 24+j*(1+q / 96 % 2)) % np:Nat):Int)]:=by
  refine Pm ?_
  unfold Lf
  rw [List.getElem?_map,List.getElem?_range h];rfl
theorem bF (np q:Nat):(Lf np q).length=Jk q:=by unfold Lf;simp
theorem tO {G:Ghost} {v:Value} {np q:Nat} (h:Sl G v 1 (Jk q) ((Lf np q).map (.int .i64))):Bt G v (Lf np q):=by unfold Bt;rw [bF];exact h
theorem rmad_ok {G:Ghost} {sz p0 p1 p2 p3 n0 n1 n2 n3 n4:UInt8} {ed r0 r1 r2:Nat} (he:ed<4294967296) (h0:r0<65536) (h1:r1<65536) (h2:r2<65536) :
  Ai prog 28 [.agg #[.int .u8 (sz.toNat:Int),.int .u8 (p0.toNat:Int),.int .u8 (p1.toNat:Int),.int .u8 (p2.toNat:Int),.int .u8 (p3.toNat:Int),.int .u8 (n0.toNat:Int),.int .u8 (n1.toNat:Int),.int .u8 (n2.toNat:Int),.int .u8 (n3.toNat:Int),.int .u8 (n4.toNat:Int),.int .u32 (ed:Int),.int .u16 (r0:Int),.int .u16 (r1:Int),.int .u16 (r2:Int)]] G [] fun r G' H'=>H'=[]∧mQ G' r (Ga (bD sz p0 p1 p2 p3 n0 n1 n2 n3 n4 ed r0 r1 r2)):=by
 obtain ⟨f,hfe⟩:∃ f,f=Ga (bD sz p0 p1 p2 p3 n0 n1 n2 n3 n4 ed r0 r1 r2):=⟨_,rfl⟩
 have hok:=fW (sz:=sz) (p0:=p0) (p1:=p1) (p2:=p2) (p3:=p3) (n0:=n0) (n1:=n1) (n2:=n2) (n3:=n3) (n4:=n4) (ed:=ed) (r0:=r0) (r1:=r1) (r2:=r2) h0 h1 h2
 have hrp:=fun i (h:i<(Jv sz.toNat))=>raw_p (sz:=sz) (p0:=p0) (p1:=p1) (p2:=p2) (p3:=p3) (n0:=n0) (n1:=n1) (n2:=n2) (n3:=n3) (n4:=n4) (ed:=ed) (r0:=r0) (r1:=r1) (r2:=r2) h
 have hrn:=fun i (h:i<(Ed sz.toNat))=>raw_n (sz:=sz) (p0:=p0) (p1:=p1) (p2:=p2) (p3:=p3) (n0:=n0) (n1:=n1) (n2:=n2) (n3:=n3) (n4:=n4) (ed:=ed) (r0:=r0) (r1:=r1) (r2:=r2) h
 have hrr:=fun i (h:i<(Pv sz.toNat))=>raw_r (sz:=sz) (p0:=p0) (p1:=p1) (p2:=p2) (p3:=p3) (n0:=n0) (n1:=n1) (n2:=n2) (n3:=n3) (n4:=n4) (ed:=ed) (r0:=r0) (r1:=r1) (r2:=r2) h0 h1 h2 h
 have hfp:f.progs.length=(Jv sz.toNat):=by rw [hfe,fT hok];rfl
 have hfn:f.nodes.length=(Ed sz.toNat):=by rw [hfe,fS hok];rfl
 have hfrl:f.routes.length=(Pv sz.toNat):=by rw [hfe,fU hok];rfl
 have hfed:f.edges=Ea ed (Ed sz.toNat):=by rw [hfe];rfl
 simp only [← hfe] at hrp hrn hrr
 have hpc:=Th sz.toNat
 have hnc:=Kw sz.toNat
 have hrc:=Ti sz.toNat
 have hsz:=sz.toNat_lt
 have hed25:f.edges.length≤25:=by rw [hfed];exact Nat.le_trans (bE ed (Ed sz.toNat) (Ed sz.toNat)) (Nat.mul_le_mul hnc.2 hnc.2)
 refine Ai.of_T [(0,_)] func28 rfl ntmps28 sM rfl fun w0 hs =>Wt 2 [] hs rfl<|O_s (Sb hs rfl fun b1 _ hs=>O_s (Sa hs zeroValue43 rfl fun b2 _ hs=>Wp 3 [0] hs rfl<|Zy hs (Ba zeroValue43 rfl PL43 rfl (cs:=[_,_,_,_]) rfl<|O_s (Sa hs zeroValue43 rfl fun b3 _ hs=>O_n (Es hs sizeOf43 rfl rfl (vs:=[_,_,_,_]) rfl (rfl) sM (cs':=[_,_,_,_]) rfl fun _ hs =>Wp 6 [0,0] hs rfl ?_)))))
 have hs:=hs.nilRow 102 2
 have hs:=hs.f2.f3.f3.f3
 refine Zl [1,2,3,4] (fun m E w=>∃ (i:Nat) (vp:Value) (css:List (List Value)) (G2:Ghost),i≤(Jv sz.toNat)∧aY G2 css (f.progs.take i)∧m=(Jv sz.toNat)-i∧E=⟨[],[(1,Vp b1),(2,Vp b2),(3,Vp b3),(4,Vi (i:Int))]⟩∧St ⟨w0,G,Bl []⟩ G2 [.row 102 2 vp i css.flatten,.blk b3 43 [vp,Vn,Vn,Vn],.blk b1 28 [.int .u8 (sz.toNat:Int),.int .u8 (p0.toNat:Int),.int .u8 (p1.toNat:Int),.int .u8 (p2.toNat:Int),.int .u8 (p3.toNat:Int),.int .u8 (n0.toNat:Int),.int .u8 (n1.toNat:Int),.int .u8 (n2.toNat:Int),.int .u8 (n3.toNat:Int),.int .u8 (n4.toNat:Int),.int .u32 (ed:Int),.int .u16 (r0:Int),.int .u16 (r1:Int),.int .u16 (r2:Int)],.blk b2 43 [Vn,Vn,Vn,Vn]] w) rfl (⟨0,_,[],_,by omega,⟨trivial,by simp⟩,rfl,rfl,hs⟩) fun m E w hI=>?_
 obtain ⟨i,vp,css,G2,hi,hA,rfl,rfl,hs⟩:=hI
 refine Wt 6 [0,2] hs rfl<|Zy hs (Dj underlying5 underlying3 (c:=(sz.toNat:Int)) rfl Z40<|Zy hs (Er (c:=((sz.toNat % 3:Nat):Int)) rfl rfl oM oM oM<|Zy hs (Eb (c:=((Jv sz.toNat:Nat):Int)) rfl rfl (by unfold Jv;omega) oM<|Zy hs (Yc rfl (fun h21=>?_) fun h21=>?_))))
 ·
  refine Wp 3 [0] hs rfl ?_
  obtain ⟨q,hq,hPi⟩:=hrp i oM
  refine Wu 2 [] hs rfl<|Bc [0,1,2,3,4,5,6,7] hs kR ?_
  replace hs:=hs.drew
  refine Xr [0,1,2,3] [0,1,1] hs rfl<|Xt 4 hs rfl (Du i underlying22 sizeOf5 rfl rfl rfl oM (m:=1+i*1) rfl<|Xt 5 hs rfl (Db 2 isAgg5 rfl rfl hq ?_))
  have hle:=hs.le
  refine Xo 6 rfl (Sc (fP (k:=q)) hs rfl fun v1 G' H' _ hR hG30 hs=>?_)
  obtain ⟨rfl,wa,wb,rfl,hPg⟩:=hR
  replace hs:=hs.n rfl
  replace hA:=hA.mono hG30
  obtain ⟨Aa,ka,Ab,kb,rfl,rfl⟩:=hPg.slices
  refine Am hs hle hG30 (lSr _) ?_
  have hle:=hs.le
  refine Xo 7 rfl (Ca hs underlying38 sizeOf102 zeroValue102 rfl rfl dC dC rfl (cs:=[_,_]) rfl rfl fun v2 _ hs _=>?_)
  obtain ⟨_,hG31,hl31,hs⟩:=hs.fixRow noM
  replace hA:=hA.mono hG31
  replace hPg:=hPg.mono hG31
  refine Am hs hle hG31 (lSr _)<|Xa 8 rfl (Bf hs underlying38 TI102 rfl dC rfl rfl (hl31) ((Iu rfl)) oM oM fun v3 _ hs =>Xa 9 rfl (S_y hs rfl (Yf 0 rfl<|Xn 10 rfl (Sd hs.f1 rfl (hs.f1.rowOne 1 rfl) fun _ hs=>Xe (Zk [1,2,3,4] rfl<|Wu 2 [] hs rfl<|Zy hs (Ya (s:=((i+1:Nat):Int)) rfl<|Wp 1 [] hs rfl ?_))))))
  have hs:=hs.f3.f3.f2.f3
  refine Zx [1,2,3,4] rfl ⟨i+1,_,css++[[.slice Aa (Dd (q.toNat % 14)).stmts.length ka,.slice Ab (Dd (q.toNat % 14)).blocks.length kb]],_,by omega,(by rw [Pm hPi];exact hA.snoc hPg rfl),rfl,rfl,zI (hs.weak hs.le (gLr _) (lSa [_,_,_,_] _)) sM⟩
 refine Wp 3 [0] hs rfl ?_
 have hin:i=(Jv sz.toNat):=by omega
 rw [hin] at hA hs
 rw [List.take_of_length_le (by rw [hfp];exact Nat.le_refl _)] at hA
 obtain ⟨_,hG_hfv,hfv,hs⟩:=hs.fixRow noM
 replace hA:=hA.mono hG_hfv
 have hPg0:tE _ _ f.progs:=hA.fin hfv hfp.symm
 obtain ⟨Ap,cp,hpe⟩:=Be.slice hPg0
 subst hpe
 refine Wu 4 [0,1] hs rfl<|Zy hs (Dj underlying5 underlying3 (c:=(sz.toNat:Int)) rfl Z40<|Zy hs (No (c:=((sz.toNat / 3:Nat):Int)) rfl rfl oM oM oM<|Zy hs (Er (c:=((sz.toNat / 3 % 4:Nat):Int)) rfl rfl oM oM oM<|Zy hs (Eb (c:=((Ed sz.toNat:Nat):Int)) rfl rfl (by unfold Ed;omega) oM<|Wp 7 [0,0] hs rfl ?_))))
 have hs:=hs.nilRow 76 4
 have hs:=hs.f3.f3.f3.f3
 refine Zl [1,2,3,5,6] (fun m E w=>∃ (i:Nat) (vn:Value) (css:List (List Value)) (G2:Ghost),i≤(Ed sz.toNat)∧Pu G2 css (f.nodes.take i)∧tE G2 (.slice Ap f.progs.length cp) f.progs∧m=(Ed sz.toNat)-i∧E=⟨[],[(1,Vp b1),(2,Vp b2),(3,Vp b3),(5,Vi (((Ed sz.toNat:Nat):Int))),(6,Vi (i:Int))]⟩∧St ⟨w0,G,Bl []⟩ G2 [.row 76 4 vn i css.flatten,.blk b3 43 [.slice Ap f.progs.length cp,vn,Vn,Vn],.blk b1 28 [.int .u8 (sz.toNat:Int),.int .u8 (p0.toNat:Int),.int .u8 (p1.toNat:Int),.int .u8 (p2.toNat:Int),.int .u8 (p3.toNat:Int),.int .u8 (n0.toNat:Int),.int .u8 (n1.toNat:Int),.int .u8 (n2.toNat:Int),.int .u8 (n3.toNat:Int),.int .u8 (n4.toNat:Int),.int .u32 (ed:Int),.int .u16 (r0:Int),.int .u16 (r1:Int),.int .u16 (r2:Int)],.blk b2 43 [Vn,Vn,Vn,Vn]] w) rfl (⟨0,_,[],_,by omega,⟨trivial,by simp⟩,hPg0,rfl,rfl,hs⟩) fun m E w hI=>?_
 obtain ⟨i,vn,css,G2,hi,hA,hPg0,rfl,rfl,hs⟩:=hI
 refine Wt 5 [] hs rfl<|Zy hs (Yc rfl (fun h42=>?_) fun h42=>?_)
 ·
  refine Wp 3 [0] hs rfl ?_
  obtain ⟨q,hq,hNi⟩:=hrn i oM
  have hq8:=q.toNat_lt
  refine Wu 6 [5] hs rfl<|Zy hs (Du i underlying23 sizeOf5 rfl rfl rfl oM (m:=5+i * 1) rfl<|Zy hs (Db 2 isAgg5 rfl rfl hq<|Zy hs (Dj underlying5 underlying3 (c:=(q.toNat:Int)) rfl Z40<|Wp 5 [0] hs rfl<|Zy hs (Er (c:=((q.toNat % 8:Nat):Int)) rfl rfl oM oM oM<|Zy hs (Qi (t:=decide (0<q.toNat % 8)) rfl rfl rfl gt_iff<|Zy hs (Ba zeroValue76 rfl PL76 rfl (cs:=[_,_,_,_]) rfl<|O_s (Sa hs zeroValue76 rfl fun b8 _ hs=>O_n (Es hs sizeOf76 rfl rfl (vs:=[_,_,_,_]) rfl (rfl) sM (cs':=[_,_,_,_]) rfl fun _ hs =>Wp 6 [0,0] hs rfl ?_))))))))
  have hs:=hs.nilRow 3 1
  have hs:=hs.f5.f5.f5.f5.f5.f5
  refine Zl [1,2,3,5,6,7,8,9] (fun m E w=>∃ (j:Nat) (vv:Value) (G2:Ghost),j≤Jk q.toNat∧Pu G2 css (f.nodes.take i)∧tE G2 (.slice Ap f.progs.length cp) f.progs∧m=Jk q.toNat-j∧E=⟨[],[(1,Vp b1),(2,Vp b2),(3,Vp b3),(5,Vi (((Ed sz.toNat:Nat):Int))),(6,Vi (i:Int)),(7,Vi (q.toNat:Int)),(8,Vp b8),(9,Vi (j:Int))]⟩∧St ⟨w0,G,Bl []⟩ G2 [.row 3 1 vv j (((Lf (Jv sz.toNat) q.toNat).take j).map (.int .i64)),.blk b8 76 [vv,Vi 0,Vi 0,.bool (decide (0<q.toNat % 8))],.row 76 4 vn i css.flatten,.blk b3 43 [.slice Ap f.progs.length cp,vn,Vn,Vn],.blk b1 28 [.int .u8 (sz.toNat:Int),.int .u8 (p0.toNat:Int),.int .u8 (p1.toNat:Int),.int .u8 (p2.toNat:Int),.int .u8 (p3.toNat:Int),.int .u8 (n0.toNat:Int),.int .u8 (n1.toNat:Int),.int .u8 (n2.toNat:Int),.int .u8 (n3.toNat:Int),.int .u8 (n4.toNat:Int),.int .u32 (ed:Int),.int .u16 (r0:Int),.int .u16 (r1:Int),.int .u16 (r2:Int)],.blk b2 43 [Vn,Vn,Vn,Vn]] w) rfl (⟨0,_,_,Nat.zero_le _,hA,hPg0,rfl,rfl,hs⟩) fun m E w hI=>?_
  obtain ⟨j,vv,G2,hj,hA,hPg0,rfl,rfl,hs⟩:=hI
  refine Wt 5 [] hs rfl<|Zy hs (No (c:=((q.toNat / 8:Nat):Int)) rfl rfl oM oM oM<|Zy hs (Er (c:=((q.toNat / 8 % 3:Nat):Int)) rfl rfl oM oM oM<|Zy hs (Eb (c:=((Jk q.toNat:Nat):Int)) rfl rfl (by unfold Jk;omega) (by have:=Tj q.toNat;omega)<|Zy hs (Yc rfl (fun h59=>?_) fun h59=>?_))))
  ·
   refine Wp 3 [0] hs rfl ?_
   have hvc:=Tj q.toNat
   have hjb:j*(1+q.toNat / 96 % 2)≤3*2:=Nat.mul_le_mul oM oM
   refine Wu 2 [] hs rfl<|Bc [0,1,2,3,4,5,6,7,8,9,10,11,12,13,14,15] hs kR ?_
   replace hs:=hs.drew
   refine Xr [0,1,2] [0,1] hs rfl<|Xt 3 hs rfl (No (c:=((q.toNat / 24:Nat):Int)) rfl rfl oM oM oM<|Xr [4,5] [] hs rfl<|Xt 6 hs rfl (No (c:=((q.toNat / 96:Nat):Int)) rfl rfl oM oM oM<|Xt 7 hs rfl (Er (c:=((q.toNat / 96 % 2:Nat):Int)) rfl rfl oM oM oM<|Xt 8 hs rfl (Ya (s:=((1+q.toNat / 96 % 2:Nat):Int)) rfl<|Xt 9 hs rfl (Xh (c:=((j*(1+q.toNat / 96 % 2):Nat):Int)) rfl rfl (by exact (Int.natCast_mul _ _).symm) oM<|Xt 10 hs rfl (Eb (c:=((q.toNat / 24+j*(1+q.toNat / 96 % 2):Nat):Int)) rfl rfl (by exact (Int.natCast_add _ _).symm) oM<|Xr [11,12,13] [0,3] hs rfl<|Xt 14 hs rfl (Er (c:=(((q.toNat / 24+j*(1+q.toNat / 96 % 2)) % (Jv sz.toNat):Nat):Int)) rfl rfl (Int.natCast_nonneg _) oM (by rw [hfp];exact (Int.natCast_emod _ _).symm) ?_)))))))
   have hle:=hs.le
   refine Xo 15 rfl (Ca hs underlying33 sizeOf3 zeroValue3 rfl rfl dC dC rfl (cs:=[_]) rfl rfl fun v4 _ hs _=>?_)
   obtain ⟨_,hG77,hl77,hs⟩:=hs.fixRow noM
   replace hA:=hA.mono hG77
   replace hPg0:=hPg0.mono hG77
   refine Am hs hle hG77 (lSr _)<|Xa 16 rfl (Bf hs underlying33 Lb rfl dC rfl rfl (hl77) (Fj rfl) oM oM fun v5 _ hs =>Xa 17 rfl (S_y hs rfl (Yf 0 rfl<|Xn 18 rfl (Sd hs.f1 rfl (hs.f1.rowOne 1 rfl) fun _ hs=>Xe (Zk [1,2,3,5,6,7,8,9] rfl<|Wu 2 [] hs rfl<|Zy hs (Ya (s:=((j+1:Nat):Int)) rfl<|Wp 1 [] hs rfl ?_))))))
   have hs:=hs.f5.f5.f5.f5.f4.f5
   refine Zx [1,2,3,5,6,7,8,9] rfl ⟨j+1,_,_,by omega,hA,hPg0,rfl,rfl,zI (hs.weak hs.le (gLr _) (lSa [_,_,_,_,_,_] _)) (by rw [tN oM,List.map_append];rfl)⟩
  refine Wp 3 [0] hs rfl ?_
  have hjv:j=Jk q.toNat:=by omega
  rw [hjv,List.take_of_length_le (by rw [bF];exact Nat.le_refl _)] at hs
  obtain ⟨_,hG_hfw,hfw,hs⟩:=hs.fixRow noM
  replace hA:=hA.mono hG_hfw
  replace hPg0:=hPg0.mono hG_hfw
  have hIv:=tO hfw
  obtain ⟨Av,cv,hve,_⟩:=id hfw
  subst hve
  have hvc:=Tj q.toNat
  refine Wu 3 [] hs rfl<|Zy hs (No (c:=((q.toNat / 2:Nat):Int)) rfl rfl oM oM oM<|Wp 3 [0,0] hs rfl<|Zy hs (Er (c:=((q.toNat / 2 % Jk q.toNat:Nat):Int)) rfl rfl oM oM (Int.natCast_emod _ _).symm<|Wp 1 [1] hs rfl<|O_n (Sd hs rfl rfl fun _ hs=>Wp 6 [0,1,0,2] hs rfl<|O_n (Sd hs rfl rfl fun _ hs=>Wp 5 [0,1,2,0] hs rfl<|O_s (Ca hs underlying39 sizeOf76 zeroValue76 rfl rfl dC dC rfl (cs:=[_,_,_,_]) rfl rfl fun v6 _ hs _=>?_)))))
  obtain ⟨_,hG93,hl93,hs⟩:=hs.fixRow noM
  replace hA:=hA.mono hG93
  replace hPg0:=hPg0.mono hG93
  replace hIv:=hIv.mono hG93
  refine O_s (Bf hs.f1 underlying39 TI76 rfl dC rfl rfl (hl93) ((Iu rfl)) oM oM fun v7 _ hs =>Wp 1 [1] hs rfl<|O_n (Sd hs.f2 rfl (hs.f2.rowOne 1 rfl) fun _ hs=>Wp 3 [5,1,2,3,5,6] hs rfl<|Zy hs (Ya (s:=((i+1:Nat):Int)) rfl<|Wp 1 [] hs rfl ?_)))
  have hs:=hs.f4.f4.f2.f3
  refine Zx [1,2,3,5,6] rfl ⟨i+1,_,css++[[.slice Av (Jk q.toNat) cv,Vi ((q.toNat / 2 % Jk q.toNat):Int),Vi ((q.toNat / 2 % Jk q.toNat):Int),.bool (decide (0<q.toNat % 8))]],_,by omega,(by rw [Pm hNi];exact hA.snoc ⟨_,rfl,hIv⟩ rfl),hPg0,rfl,rfl,zI (hs.weak hs.le (gLr _) (lSa [_,_,_,_] _)) sM⟩
 refine Wp 3 [0] hs rfl ?_
 have hin:i=(Ed sz.toNat):=by omega
 rw [hin] at hA hs
 rw [List.take_of_length_le (by rw [hfn];exact Nat.le_refl _)] at hA
 obtain ⟨_,hG_hfv,hfv,hs⟩:=hs.fixRow noM
 replace hA:=hA.mono hG_hfv
 replace hPg0:=hPg0.mono hG_hfv
 have hNd0:yR _ _ f.nodes:=hA.fin hfv hfn.symm
 obtain ⟨An,cn,hne⟩:=Be.slice hNd0
 subst hne
 refine Wu 5 [0] hs rfl ?_
 have hs:=hs.nilRow 70 2
 have hs:=hs.f3.f3.f3.f3
 refine Zl [1,2,3,5,10] (fun m E w=>∃ (i:Nat) (ve:Value) (G2:Ghost),i≤(Ed sz.toNat)∧tE G2 (.slice Ap f.progs.length cp) f.progs∧yR G2 (.slice An f.nodes.length cn) f.nodes∧m=(Ed sz.toNat)-i∧E=⟨[],[(1,Vp b1),(2,Vp b2),(3,Vp b3),(5,Vi (((Ed sz.toNat:Nat):Int))),(10,Vi (i:Int))]⟩∧St ⟨w0,G,Bl []⟩ G2 [.row 70 2 ve (kX ed (Ed sz.toNat) i).length (kV (kX ed (Ed sz.toNat) i)),.blk b3 43 [.slice Ap f.progs.length cp,.slice An f.nodes.length cn,ve,Vn],.blk b1 28 [.int .u8 (sz.toNat:Int),.int .u8 (p0.toNat:Int),.int .u8 (p1.toNat:Int),.int .u8 (p2.toNat:Int),.int .u8 (p3.toNat:Int),.int .u8 (n0.toNat:Int),.int .u8 (n1.toNat:Int),.int .u8 (n2.toNat:Int),.int .u8 (n3.toNat:Int),.int .u8 (n4.toNat:Int),.int .u32 (ed:Int),.int .u16 (r0:Int),.int .u16 (r1:Int),.int .u16 (r2:Int)],.blk b2 43 [Vn,Vn,Vn,Vn]] w) rfl (⟨0,_,_,by omega,hPg0,hNd0,rfl,rfl,hs⟩) fun m E w hI=>?_
 obtain ⟨i,ve,G2,hi,hPg0,hNd0,rfl,rfl,hs⟩:=hI
 refine Wt 5 [] hs rfl<|Zy hs (Yc rfl (fun h98=>?_) fun h98=>?_)
 ·
  refine Wp 9 [0,0] hs rfl ?_
  have hs:=hs.f3.f3.f3.f3
  refine Zl [1,2,3,5,10,11] (fun m E w=>∃ (k:Nat) (ve:Value) (G2:Ghost),k≤(Ed sz.toNat)∧tE G2 (.slice Ap f.progs.length cp) f.progs∧yR G2 (.slice An f.nodes.length cn) f.nodes∧m=(Ed sz.toNat)-k∧E=⟨[],[(1,Vp b1),(2,Vp b2),(3,Vp b3),(5,Vi (((Ed sz.toNat:Nat):Int))),(10,Vi (i:Int)),(11,Vi (k:Int))]⟩∧St ⟨w0,G,Bl []⟩ G2 [.row 70 2 ve (kX ed (Ed sz.toNat) i++kC ed i k).length (kV (kX ed (Ed sz.toNat) i++kC ed i k)),.blk b3 43 [.slice Ap f.progs.length cp,.slice An f.nodes.length cn,ve,Vn],.blk b1 28 [.int .u8 (sz.toNat:Int),.int .u8 (p0.toNat:Int),.int .u8 (p1.toNat:Int),.int .u8 (p2.toNat:Int),.int .u8 (p3.toNat:Int),.int .u8 (n0.toNat:Int),.int .u8 (n1.toNat:Int),.int .u8 (n2.toNat:Int),.int .u8 (n3.toNat:Int),.int .u8 (n4.toNat:Int),.int .u32 (ed:Int),.int .u16 (r0:Int),.int .u16 (r1:Int),.int .u16 (r2:Int)],.blk b2 43 [Vn,Vn,Vn,Vn]] w) rfl (⟨0,ve,_,by omega,hPg0,hNd0,rfl,rfl,Bz hs (by simp [kC])⟩) fun m E w hI=>?_
  obtain ⟨k,ve,G2,hk,hPg0,hNd0,rfl,rfl,hs⟩:=hI
  refine Wt 5 [] hs rfl<|Zy hs (Yc rfl (fun h103=>?_) fun h103=>?_)
  ·
   refine Wp 9 [0] hs rfl<|Zy hs (Ya (s:=((i+1:Nat):Int)) rfl<|Zy hs (Yc rfl (fun h109=>?_) fun h109=>?_))
   ·
    refine Wp 6 [0] hs rfl<|Zy hs (Yc rfl (fun h112=>?_) fun h112=>?_)
    ·
     refine Wp 15 [7,1,2,3,5,10,11,126] hs rfl ?_
     have hel:(kX ed (Ed sz.toNat) i).length≤25:=Nat.le_trans (bE _ _ _) (Nat.mul_le_mul (show i≤5 by omega) hnc.2)
     have hql:=mZ ed i k
     have hqa:(kX ed (Ed sz.toNat) i++kC ed i k).length=(kX ed (Ed sz.toNat) i).length+(kC ed i k).length:=List.length_append
     refine Wu 6 [2,1] hs rfl<|Zy hs (Co underlying70 sizeOf3 zeroValue70 rfl rfl (cs:=[_,_]) rfl<|O_s (Ca hs underlying40 sizeOf70 zeroValue70 rfl rfl dC dC rfl (cs:=[_,_]) rfl rfl fun v8 _ hs _=>?_))
     obtain ⟨_,hG132,hl132,hs⟩:=hs.fixRow noM
     replace hPg0:=hPg0.mono hG132
     replace hNd0:=hNd0.mono hG132
     refine O_s (Bf hs underlying40 TI70 rfl dC rfl rfl (hl132) ((Iu rfl)) oM (by rw [List.length_append];omega) fun v9 _ hs =>Wp 1 [2] hs rfl<|O_n (Sd hs.f1 rfl (hs.f1.rowOne 1 rfl) fun _ hs=>Wp 3 [0] hs rfl<|Zy hs (Ya (s:=((k+1:Nat):Int)) rfl<|Wp 1 [] hs rfl ?_)))
     have hs:=hs.f3.f3.f2.f3
     refine Zx [1,2,3,5,10,11] rfl ⟨k+1,v9,_,by omega,hPg0,hNd0,rfl,rfl,Bz (hs.weak hs.le (gLr _) (lSa [_,_,_,_] _)) (by rw [edQ_T (on_next oM)];simp [fH,kV,prC,Nat.add_assoc])⟩
    refine Wp 3 [] hs rfl<|Ec 115 rfl rfl<|Ec 115 rfl rfl<|Ec 115 rfl rfl<|Ec 115 rfl rfl<|Ec 115 rfl rfl<|Ec 115 rfl rfl<|Ec 115 rfl rfl<|Ec 115 rfl rfl<|Ec 115 rfl rfl<|Wp 7 [0] hs rfl<|Zy hs (Ya (s:=((k+1:Nat):Int)) rfl<|Wp 1 [] hs rfl ?_)
    have hs:=hs.f3.f3.f3.f3
    refine Zx [1,2,3,5,10,11] rfl ⟨k+1,ve,_,by omega,hPg0,hNd0,rfl,rfl,Bz (hs.weak hs.le (gLr _) (lSa [_,_,_,_] _)) (by rw [zL (on_no oM)])⟩
   refine Wp 6 [0] hs rfl<|Zy hs (Yc rfl (fun h112=>?_) fun h112=>?_)
   ·
    refine Wp 6 [10,2] hs rfl<|Zg hs rfl (Xh (c:=((5*i:Nat):Int)) rfl rfl oM oM<|Wp 1 [] hs rfl<|Zg hs rfl (Ya (s:=((5*i+k:Nat):Int)) rfl<|Zg hs rfl (cN (c:=((ed / 2 ^ (5*i+k):Nat):Int)) rfl rfl oM (shr32 _ _ oM)<|Zg hs rfl (Er (c:=((ed / 2 ^ (5*i+k) % 2:Nat):Int)) rfl rfl (Int.natCast_nonneg _) oM oM<|Zg hs rfl (Yc rfl (fun h124=>?_) fun h124=>?_)))))
    ·
     refine Wp 3 [7,1,2,3,5,10,11,126] hs rfl ?_
     have hel:(kX ed (Ed sz.toNat) i).length≤25:=Nat.le_trans (bE _ _ _) (Nat.mul_le_mul (show i≤5 by omega) hnc.2)
     have hql:=mZ ed i k
     have hqa:(kX ed (Ed sz.toNat) i++kC ed i k).length=(kX ed (Ed sz.toNat) i).length+(kC ed i k).length:=List.length_append
     refine Wu 6 [2,1] hs rfl<|Zy hs (Co underlying70 sizeOf3 zeroValue70 rfl rfl (cs:=[_,_]) rfl<|O_s (Ca hs underlying40 sizeOf70 zeroValue70 rfl rfl dC dC rfl (cs:=[_,_]) rfl rfl fun v10 _ hs _=>?_))
     obtain ⟨_,hG132,hl132,hs⟩:=hs.fixRow noM
     replace hPg0:=hPg0.mono hG132
     replace hNd0:=hNd0.mono hG132
     refine O_s (Bf hs underlying40 TI70 rfl dC rfl rfl (hl132) ((Iu rfl)) oM (by rw [List.length_append];omega) fun v11 _ hs =>Wp 1 [2] hs rfl<|O_n (Sd hs.f1 rfl (hs.f1.rowOne 1 rfl) fun _ hs=>Wp 3 [0] hs rfl<|Zy hs (Ya (s:=((k+1:Nat):Int)) rfl<|Wp 1 [] hs rfl ?_)))
     have hs:=hs.f3.f3.f2.f3
     refine Zx [1,2,3,5,10,11] rfl ⟨k+1,v11,_,by omega,hPg0,hNd0,rfl,rfl,Bz (hs.weak hs.le (gLr _) (lSa [_,_,_,_] _)) (by rw [edQ_T (((zM oM oM).trans (decide_eq_true oM)))];simp [fH,kV,prC,Nat.add_assoc])⟩
    refine Wp 7 [7,1,2,3,5,10,11,126] hs rfl<|Zy hs (Ya (s:=((k+1:Nat):Int)) rfl<|Wp 1 [] hs rfl ?_)
    have hs:=hs.f3.f3.f3.f3
    refine Zx [1,2,3,5,10,11] rfl ⟨k+1,ve,_,by omega,hPg0,hNd0,rfl,rfl,Bz (hs.weak hs.le (gLr _) (lSa [_,_,_,_] _)) (by rw [zL (((zM oM oM).trans (decide_eq_false oM)))])⟩
   refine Wp 3 [] hs rfl<|Ec 115 rfl rfl<|Ec 115 rfl rfl<|Ec 115 rfl rfl<|Ec 115 rfl rfl<|Ec 115 rfl rfl<|Ec 115 rfl rfl<|Ec 115 rfl rfl<|Ec 115 rfl rfl<|Ec 115 rfl rfl<|Wp 7 [0] hs rfl<|Zy hs (Ya (s:=((k+1:Nat):Int)) rfl<|Wp 1 [] hs rfl ?_)
   have hs:=hs.f3.f3.f3.f3
   refine Zx [1,2,3,5,10,11] rfl ⟨k+1,ve,_,by omega,hPg0,hNd0,rfl,rfl,Bz (hs.weak hs.le (gLr _) (lSa [_,_,_,_] _)) (by rw [zL (on_no oM)])⟩
  refine Wp 3 [0] hs rfl ?_
  have hkn:k=(Ed sz.toNat):=by omega
  rw [hkn,← kD] at hs
  refine Wu 2 [] hs rfl<|Zy hs (Ya (s:=((i+1:Nat):Int)) rfl<|Wp 1 [] hs rfl ?_)
  have hs:=hs.f3.f3.f3.f3
  refine Zx [1,2,3,5,10] rfl ⟨i+1,_,_,by omega,hPg0,hNd0,rfl,rfl,hs.weak hs.le (gLr _) (lSa [_,_,_,_] _)⟩
 refine Wp 3 [0] hs rfl ?_
 have hin:i=(Ed sz.toNat):=by omega
 rw [hin] at hs
 obtain ⟨_,hG_hfv,hfv,hs⟩:=hs.fixRow noM
 replace hPg0:=hPg0.mono hG_hfv
 replace hNd0:=hNd0.mono hG_hfv
 have hEd0:=fL (q:=Ea ed (Ed sz.toNat)) hfv
 rw [← hfed] at hEd0
 obtain ⟨Ae,ce,hee⟩:=Be.slice hEd0
 subst hee
 refine Wu 5 [0] hs rfl ?_
 have hs:=hs.nilRow 33 1
 have hs:=hs.f3.f3.f3.f3
 refine Zl [1,2,3,13] (fun m E w=>∃ (r:Nat) (vr:Value) (rs:List Value) (G2:Ghost),r≤(Pv sz.toNat)∧Oo G2 rs (f.routes.take r)∧tE G2 (.slice Ap f.progs.length cp) f.progs∧yR G2 (.slice An f.nodes.length cn) f.nodes∧kU G2 (.slice Ae f.edges.length ce) f.edges∧m=(Pv sz.toNat)-r∧E=⟨[],[(1,Vp b1),(2,Vp b2),(3,Vp b3),(13,Vi (r:Int))]⟩∧St ⟨w0,G,Bl []⟩ G2 [.row 33 1 vr r rs,.blk b3 43 [.slice Ap f.progs.length cp,.slice An f.nodes.length cn,.slice Ae f.edges.length ce,vr],.blk b1 28 [.int .u8 (sz.toNat:Int),.int .u8 (p0.toNat:Int),.int .u8 (p1.toNat:Int),.int .u8 (p2.toNat:Int),.int .u8 (p3.toNat:Int),.int .u8 (n0.toNat:Int),.int .u8 (n1.toNat:Int),.int .u8 (n2.toNat:Int),.int .u8 (n3.toNat:Int),.int .u8 (n4.toNat:Int),.int .u32 (ed:Int),.int .u16 (r0:Int),.int .u16 (r1:Int),.int .u16 (r2:Int)],.blk b2 43 [Vn,Vn,Vn,Vn]] w) rfl (⟨0,_,[],_,by omega,trivial,hPg0,hNd0,hEd0,rfl,rfl,hs⟩) fun m E w hI=>?_
 obtain ⟨r,vr,rs,G2,hr,hLr,hPg0,hNd0,hEd0,rfl,rfl,hs⟩:=hI
 refine Wt 6 [0,2] hs rfl<|Zy hs (Dj underlying5 underlying3 (c:=(sz.toNat:Int)) rfl Z40<|Zy hs (No (c:=((sz.toNat / 12:Nat):Int)) rfl rfl oM oM oM<|Zy hs (Er (c:=((sz.toNat / 12 % 3:Nat):Int)) rfl rfl oM oM oM<|Zy hs (Eb (c:=((Pv sz.toNat:Nat):Int)) rfl rfl (by unfold Pv;omega) oM<|Zy hs (Yc rfl (fun h142=>?_) fun h142=>?_)))))
 ·
  refine Wp 3 [0] hs rfl ?_
  obtain ⟨q,hq6,hq,hRi⟩:=hrr r oM
  refine Wu 2 [] hs rfl<|Bc [0,1,2,3,4,5,6,7,8] hs kR ?_
  replace hs:=hs.drew
  refine Xr [0,1,2,3,4] [3,1,1,11] hs rfl<|Xt 5 hs rfl (Du r underlying26 sizeOf25 rfl rfl rfl oM (m:=11+r*1) rfl<|Xt 6 hs rfl (Db 2 isAgg25 rfl rfl hq ?_))
  have hle:=hs.le
  refine Xo 7 rfl (Sc (rrou_ok (wp:=.slice Ap f.progs.length cp) (wr:=vr) (nn:=f.nodes.length) (es:=f.edges) hEd0 oM hq6 oM oM) hs rfl fun v12 G' H' _ hR hG152 hs=>?_)
  obtain ⟨rfl,hRt⟩:=hR
  replace hs:=hs.n rfl
  replace hLr:=hLr.mono hG152
  replace hPg0:=hPg0.mono hG152
  replace hNd0:=hNd0.mono hG152
  replace hEd0:=hEd0.mono hG152
  obtain ⟨A152,c152,rfl,_⟩:=id hRt
  refine Am hs hle hG152 (lSr _) ?_
  have hle:=hs.le
  refine Xo 8 rfl (Ca hs underlying41 sizeOf33 zeroValue33 rfl rfl dC dC rfl (cs:=[_]) rfl rfl fun v13 _ hs _=>?_)
  obtain ⟨_,hG153,hl153,hs⟩:=hs.fixRow noM
  replace hLr:=hLr.mono hG153
  replace hPg0:=hPg0.mono hG153
  replace hNd0:=hNd0.mono hG153
  replace hEd0:=hEd0.mono hG153
  replace hRt:=hRt.mono hG153
  refine Am hs hle hG153 (lSr _)<|Xa 9 rfl (Bf hs underlying41 eS rfl dC rfl rfl (hl153) (Fj rfl) oM oM fun v14 _ hs =>Xa 10 rfl (S_y hs rfl (Yf 3 rfl<|Xn 11 rfl (Sd hs.f1 rfl (hs.f1.rowOne 1 rfl) fun _ hs=>Xe (Zk [1,2,3,13] rfl<|Wu 2 [] hs rfl<|Zy hs (Ya (s:=((r+1:Nat):Int)) rfl<|Wp 1 [] hs rfl ?_))))))
  have hs:=hs.f3.f3.f2.f3
  refine Zx [1,2,3,13] rfl ⟨r+1,_,rs++[.slice A152 (Fb f.edges f.nodes.length q).length c152],_,by omega,(by rw [Pm hRi];exact hLr.snoc (by rw [← hfed,← hfn];exact Vl hRt)),hPg0,hNd0,hEd0,rfl,rfl,hs.weak hs.le (gLr _) (lSa [_,_,_,_] _)⟩
 refine Wp 3 [0] hs rfl ?_
 have hrn2:r=(Pv sz.toNat):=by omega
 rw [hrn2,List.take_of_length_le (by rw [hfrl];exact Nat.le_refl _)] at hLr
 rw [hrn2] at hs
 refine Wu 3 [1] hs rfl<|O_n (Es hs.f3 sizeOf43 rfl rfl (vs:=[_,_,_,_]) rfl (by simp only [List.all_cons,List.all_nil,hs.f3.rowOne 1 rfl];rfl) sM (cs':=[_,_,_,_]) rfl fun _ hs =>Wp 1 [0] hs rfl<|Ah ?_)
 have hs:=hs.f1
 obtain ⟨_,hG_hfr,hfr,hs⟩:=hs.fixRow noM
 replace hLr:=hLr.mono hG_hfr
 replace hPg0:=hPg0.mono hG_hfr
 replace hNd0:=hNd0.mono hG_hfr
 replace hEd0:=hEd0.mono hG_hfr
 refine Zz results28 (Rb 0 hs rfl rF) ?_
 exact ⟨_,[],hs.done,rfl,by rw [← hfe];exact mQ.of hPg0 hNd0 hEd0 (Oo.fin hfr hfrl.symm hLr)⟩
theorem nA:(List.range 14).all (fun k=>okP (Dd k))=true:=by kernel_rfl
theorem bG {k:Nat} (h:k<14):okP (Dd k)=true:=List.all_eq_true.1 nA k (List.mem_range.2 h)
structure FOk (f:Bw):Prop where
  z:tY f
  o:∀ p∈f.progs,OkP p
  pl:f.progs.length≤1000
  rl:f.routes.length≤1000
def noF:Bw:=⟨[],[],[],[]⟩
theorem noF_ok:FOk noF:=⟨⟨by decide,by decide,by decide,by decide⟩,fun p h=>gK,by decide,by decide⟩
theorem noF_c:Dh noF=1:=by kernel_rfl
theorem kE {x:Us} (hx:x.ok):FOk (Ga x):=by
  have hn:=fS hx;have hp:=fT hx;have hr:=fU hx
  have hn2:=Kw x.size;have hp2:=Th x.size;have hr2:=Ti x.size
  have hpr:∀ p∈(Ga x).progs,okP p=true:=by
    intro p h
    have h':p∈(x.progs.take (Jv x.size)).map fun k=>Dd (k % 14):=h
    obtain ⟨k,_,rfl⟩:=List.mem_map.1 h'
    exact bG (Nat.mod_lt _ dC)
  refine ⟨⟨by omega,?_,?_,?_⟩,fun p h=>.inl (hpr p h),by omega,by omega⟩
  · show (kX x.edges (Ed x.size) (Ed x.size)).length≤1000
    have:=bE x.edges (Ed x.size) (Ed x.size)
    have h25:Ed x.size*Ed x.size≤5*5:=Nat.mul_le_mul hn2.2 hn2.2
    omega
  · intro y hy
    have hy':y∈(x.nodes.take (Ed x.size)).map (Qw (Jv x.size)):=hy
    obtain ⟨k,_,rfl⟩:=List.mem_map.1 hy'
    show (Lf _ _).length≤1000
    rw [bF];have:=Tj k;omega
  · intro r h
    obtain ⟨l,rfl,_,_,_,h5⟩:=Qx h
    unfold Nm;rw [List.length_map];omega
end Go.Proofs.YtngdgnolkilheaaGreatDoor
namespace Go.Ex
open Go.Proofs Go.Shelf Go.RowKit Go.Sort
variable {P:Program} {ρ:Ren} {α:Type} [Inhabited α] {enc:α→List Value} {k:Nat}
theorem nB {W w':World} {G':Ghost} (h:St ⟨W,whole W,Bl []⟩ G' [] w'):∃ q os',w'=grow (W.drewN q) os':=by
 refine ⟨w'.drawn-W.drawn,w'.heap.extract W.heap.size w'.heap.size,?_⟩
 have h1:=h.os;have h2:=h.tape;have h3:=h.output;have h4:=h.drn
 have hh:W.heap++w'.heap.extract W.heap.size w'.heap.size=w'.heap:=by
  apply Array.ext_getElem?
  intro j
  rw [Array.getElem?_append]
  split
  ·exact (h.old j ‹_› (by rintro ⟨r,hr,_⟩;cases hr)).symm
  ·rw [Array.getElem?_extract]
   split
   ·rw [show W.heap.size+(j-W.heap.size)=j from by omega]
   ·rw [Array.getElem?_eq_none Dz]
 cases w';cases W
 dsimp only at h1 h2 h3 h4 hh
 unfold grow World.drewN
 dsimp only
 rw [hh,h1,h2,h3,show ∀ a b:Nat,a≤b→a+(b-a)=b from fun a b h=>by omega]
 exact h4
theorem Wv (hk:∀ x,(enc x).length=k):∀ (l:List α) (t:Nat),t<l.length*k→(l.flatMap enc)[t]?=some ((enc l[t / k]!)[t % k]!)
 | [],t,h=>by simp at h
 | a::l,t,h=>by
  have hk0:0<k:=Nat.pos_of_ne_zero (by rintro rfl;simp at h)
  rw [List.flatMap_cons,List.getElem?_append,hk a]
  split
  ·rw [Nat.div_eq_of_lt ‹_›,Nat.mod_eq_of_lt ‹_›,List.getElem?_eq_getElem (by rw [hk];assumption)]
   simp [*]
  ·have h1:k≤t:=by omega
   rw [Wv hk l (t-k) (by rw [List.length_cons,Nat.succ_mul] at h;omega),Nat.div_eq_sub_div hk0 h1,Nat.mod_eq_sub_mod h1]
   simp
theorem Qy (hk:∀ x,(enc x).length=k) (l:List α):(flatK enc k l.toArray).toList=l.flatMap enc:=by
 have hlen:(l.flatMap enc).length=l.length*k:=by
  induction l with
  | nil=>simp
  | cons a l ih=>rw [List.flatMap_cons,List.length_append,ih,hk,List.length_cons,Nat.succ_mul,Nat.add_comm]
 apply List.ext_getElem?
 intro t
 by_cases ht:t<l.length*k
 ·rw [Wv hk l t ht,Array.getElem?_toList,Array.getElem?_eq_getElem (by simpa using ht),← getElem!_pos (flatK enc k l.toArray) t (by simpa using ht),get_flatK _ _ _ _ (by simpa using ht)]
  simp
 ·rw [List.getElem?_eq_none Nj,List.getElem?_eq_none Dz]
theorem cM (cur F:Array Value) (h:F.size≤cur.size):(putCells id 0 F cur).toList.take F.size=F.toList:=by
 apply List.ext_getElem?
 intro j
 by_cases hj:j<F.size
 ·rw [List.getElem?_take_of_lt hj,Array.getElem?_toList]
  simp [putCells,hj,show j<cur.size by omega]
 ·rw [List.getElem?_take_eq_none Dz,List.getElem?_eq_none Nj]
theorem zN (L:SlLaysF0.n6 P ρ) {g:Nat} {e:TypeId} (aE:∀ w,(isAgg (ρ.t 24)).run P w=.ok true w) (zE:∀ w,(Go.sizeOf (ρ.t 24)).run P w=.ok k w) (hk:∀ x,(enc x).length=k) (h1:∀ x,∀ v∈enc x,v.oneCell'=true) {cf:α→α→Int} (hO:SWO (ltOf cf))
  (eg:∀ args w,(callFunc g args).run P w=.ok (.enter g args) w) (hc:∀ (G:Ghost) x y,Ai P g [.agg (enc x).toArray,.agg (enc y).toArray] G [] fun r _ H'=>r=.int .i64 (cf x y)∧H'=[])
  {b cap n:Nat} {l:List α} {G:Ghost} (hn:n=l.length) (hl:l.length<4611686018427387904) :
  Ai P (ρ.f 6) [.slice (some ⟨b,0,none⟩) n cap,.func (.func g) #[] #[]] G [.row e k (.slice (some ⟨b,0,none⟩) n cap) n (l.flatMap enc)]
   fun _ _ H'=>∃ l':List α,l'.Perm l∧l'.Pairwise (fun a b=>ltOf cf b a=false)∧H'=[.row e k (.slice (some ⟨b,0,none⟩) n cap) n (l'.flatMap enc)]:=by
 subst hn
 intro w hw
 have hrow:w.ownsRow 0 e k (.slice (some ⟨b,0,none⟩) l.length cap) l.length (l.flatMap enc):=hw.hold (.row e k _ l.length (l.flatMap enc)) Dr
 rcases hrow.2 with ⟨h0,_⟩ | ⟨b',cap',cur,hv,h0,hh,hnc,hcm,hsz,htk⟩
 ·cases h0
 cases hv
 have hb:b<w.heap.size:=Dk hh
 have hH:HoldsK enc k w b 0 l.toArray:=by
  intro j hj
  have hj':j<l.length*k:=by simpa using hj
  refine ⟨?_,by simp [World.frozen?,hh]⟩
  have h2:(cur.toList.take (l.length*k))[j]?=(l.flatMap enc)[j]?:=by rw [htk]
  rw [List.getElem?_take_of_lt hj',Array.getElem?_toList] at h2
  simp only [World.cell?,hh,Nat.zero_add,Option.isSome_none,Bool.false_eq_true,if_false]
  rw [h2,← Qy hk,Array.getElem?_toList,Array.getElem?_eq_getElem hj,getElem!_pos _ j hj]
  rfl
 have hcmp:CmpLays P g #[] enc k cf b 0 l.toArray.size w:=fun m os dk _ x y =>
  (hc _ x y _ (St.whole _)).mono fun e' w' ⟨v,G',H',he,hs,hr,hH'⟩=>by
   subst hr hH'
   exact ⟨he,nB hs⟩
 refine (AnyQ.slices_SortFunc L k aE zE enc hk h1 cf hO g #[] b 0 cap l.toArray w eg hcmp hH hb (by simpa using hl)).mono fun e' w' ⟨he,d',m,os,hp,hso,hw'⟩=>?_
 obtain ⟨l',rfl⟩:∃ l':List α,d'=l'.toArray:=⟨d'.toList,rfl⟩
 have hlen:l'.length=l.length:=by simpa using hp.1
 have hperm:l'.Perm l:=by
  have:=hp.2.2
  simpa [hlen,List.take_of_length_le] using this
 refine ⟨_,G,[.row e k (.slice (some ⟨b,0,none⟩) l.length cap) l.length (l'.flatMap enc)],he,?_,l',hperm,?_,rfl⟩
 ·subst hw'
  refine St.write hw rfl rfl rfl (by simp [sortWorldK,putRowK,putRow,mapBlock,Sort.ahead,grow]) (fun j hj hf=>?_) ?_ (fun j hj=>.inl hj) (by simp [sortWorldK,putRowK,putRow,mapBlock,Sort.ahead,grow])
  ·unfold sortWorldK
   rw [heap_grow_old _ _ (by simpa [putRowK,putRow,mapBlock,Sort.ahead] using hj)]
   have:b≠j:=fun e2=>hf (by subst e2;rfl)
   simp [putRowK,putRow,mapBlock,Sort.ahead,Array.getElem?_modify,this]
  ·have hF:(flatK enc k l'.toArray).size=l.length*k:=by simp [hlen]
   have hcs:l.length*k≤cur.size:=by rw [hsz];exact Nat.mul_le_mul_right _ hnc
   refine ⟨?_,.inr ⟨b,cap,putCells id 0 (flatK enc k l'.toArray) cur,rfl,h0,?_,hnc,hcm,by simp [putCells,hsz],?_⟩⟩
   ·rw [← Qy hk,Array.length_toList,hF]
   ·unfold sortWorldK
    rw [heap_grow_old _ _ (by simpa [putRowK,putRow,mapBlock,Sort.ahead] using hb)]
    simp [putRowK,putRow,mapBlock,Sort.ahead,Array.getElem?_modify,hh,onCells]
   ·have:=cM cur (flatK enc k l'.toArray) (by rw [hF];exact hcs)
    rw [hF] at this
    rw [this,Qy hk]
 ·rw [List.pairwise_iff_getElem]
  intro i j hi hj hij
  have:=hso i j (Nat.zero_le _) hij (by simpa [← hlen] using hj)
  simpa [hi,hj] using this
end Go.Ex
namespace Pl
open Go.Ex
def Jl (nv:List Int):List Int→List Nat→List (List Int)
 | r,[]=>[r]
 | r,i::o=>r::Jl nv (r.set i (nv.getD i 0)) o
section
variable (nv:List Int) (ed:Int→Nat×Nat) (S:Int→Int→Bool) (U:List Int) (r0:List Int)
def okE (r:List Int) (e:Int):Bool:=S (r.getD (ed e).1 0) (r.getD (ed e).2 0)
def Tk (o:List Nat) (e:Int):Bool:=(Jl nv r0 o).all fun r=>okE ed S r e
def clF (o:List Nat):List Int:=U.filter fun e=>!(Tk nv ed S r0 o e)
end
theorem fX (nv:List Int):∀ (o:List Nat) (r:List Int),(Jl nv r o).length=o.length+1
 | [],_=>rfl
 | i::o,r=>by rw [Jl,List.length_cons,fX nv o,List.length_cons]
theorem fY (nv r:List Int) (o:List Nat):(Jl nv r o)[0]?=some r:=by cases o<;>rfl
theorem qA (nv:List Int):∀ (o:List Nat) (r:List Int) (k:Nat) (h:k<o.length) (x:List Int),(Jl nv r o)[k]?=some x→(Jl nv r o)[k+1]?=some (x.set o[k] (nv.getD o[k] 0))
 | i::o,r,0,_,x,hx=>by
  rw [Jl,List.getElem?_cons_zero] at hx;injection hx with hx;subst hx
  rw [Jl,List.getElem?_cons_succ];exact fY _ _ _
 | i::o,r,k+1,h,x,hx=>by
  rw [Jl,List.getElem?_cons_succ] at hx
  rw [Jl,List.getElem?_cons_succ]
  exact qA nv o _ k bT x hx
theorem fZ (nv:List Int):∀ (o:List Nat) (r x:List Int),x∈Jl nv r o→x.length=r.length
 | [],r,x,h=>by rw [Jl,List.mem_singleton] at h;rw [h]
 | i::o,r,x,h=>by
  rw [Jl] at h
  rcases List.mem_cons.1 h with rfl | h
  ·rfl
  ·rw [fZ nv o _ x h,List.length_set]
theorem zO (nv:List Int) {p:Int→Prop} (h0:∀ i,p (nv.getD i 0)):∀ (o:List Nat) (r x:List Int),(∀ y∈r,p y)→x∈Jl nv r o→∀ y∈x,p y
 | [],r,x,hr,h=>by rw [Jl,List.mem_singleton] at h;rw [h];exact hr
 | i::o,r,x,hr,h=>by
  rw [Jl] at h
  rcases List.mem_cons.1 h with rfl | h
  ·exact hr
  ·refine zO nv h0 o _ x (fun y hy=>?_) h
   rcases List.mem_or_eq_of_mem_set hy with hy | rfl
   ·exact hr y hy
   ·exact h0 i
theorem Wv {α:Type} (g:Nat→List α):∀ {N i m:Nat} {x:α},i<N→(g i)[m]?=some x→((List.range N).flatMap g)[((List.range i).flatMap g).length+m]?=some x:=by
 intro N i m x hi hx
 have e:List.range N=List.range i++(List.range (N-i)).map (i+·):=by
  have:N=i+(N-i):=by omega
  conv=>lhs;rw [this,List.range_add]
 rw [e,List.flatMap_append,List.getElem?_append_right (Nat.le_add_right _ _),Nat.add_sub_cancel_left]
 obtain ⟨d,hd⟩:∃ d,N-i=d+1:=⟨N-i-1,by omega⟩
 rw [hd,List.range_succ_eq_map,List.map_cons,List.flatMap_cons,Nat.add_zero,List.getElem?_append_left (List.getElem?_eq_some_iff.1 hx).1]
 exact hx
theorem flat_len {α:Type} (g:Nat→List α) (i:Nat):((List.range (i+1)).flatMap g).length=((List.range i).flatMap g).length+(g i).length:=by
 rw [List.range_succ,List.flatMap_append];simp
def Hh:Nat→List Nat→List Nat→List (List Nat)
 | 0,p,_=>[p]
 | f+1,p,l=>if l=[] then [p] else (List.range l.length).flatMap fun i=>Hh f (p++[l.getD i 0]) (l.eraseIdx i)
theorem Qz {α:Type}:∀ {l:List α} (i:Nat) (h:i<l.length),(l[i]::l.eraseIdx i).Perm l
 | a::l,0,_=>.refl _
 | a::l,i+1,h=>(List.Perm.swap a _ _).trans ((Qz (l:=l) i bT).cons a)
theorem Tl:∀ (f:Nat) (p l o:List Nat),l.length=f→o∈Hh f p l→∃ q,o=p++q∧q.Perm l
 | 0,p,l,o,hl,h=>by
  obtain rfl:l=[]:=List.length_eq_zero_iff.1 hl
  rw [Hh,List.mem_singleton] at h
  exact ⟨[],by simp [h],.refl _⟩
 | f+1,p,l,o,hl,h=>by
  have hne:¬ l=[]:=fun e=>by rw [e] at hl;cases hl
  rw [Hh,if_neg hne,List.mem_flatMap] at h
  obtain ⟨i,hi,h⟩:=h
  rw [List.mem_range] at hi
  obtain ⟨q,rfl,hq⟩:=Tl f _ _ o (by rw [List.length_eraseIdx_of_lt hi];omega) h
  refine ⟨l.getD i 0::q,by simp,?_⟩
  rw [List.getD_eq_getElem?_getD,List.getElem?_eq_getElem hi]
  exact (List.Perm.cons _ hq).trans (Qz i hi)
theorem bH:∀ (f:Nat) (p l q:List Nat),l.length=f→q.Perm l→p++q∈Hh f p l
 | 0,p,l,q,hl,h=>by
  obtain rfl:l=[]:=List.length_eq_zero_iff.1 hl
  rw [h.eq_nil,Hh];simp
 | f+1,p,l,q,hl,h=>by
  have hne:¬ l=[]:=fun e=>by rw [e] at hl;cases hl
  rw [Hh,if_neg hne,List.mem_flatMap]
  cases q with
  | nil=>exact absurd h.symm.eq_nil hne
  | cons a q =>
   have ha:a∈l:=h.subset List.mem_cons_self
   obtain ⟨i,hi,e⟩:=List.getElem_of_mem ha
   refine ⟨i,List.mem_range.2 hi,?_⟩
   rw [List.getD_eq_getElem?_getD,List.getElem?_eq_getElem hi,e]
   have hq:q.Perm (l.eraseIdx i):=by
    have h2:=h.trans (Qz i hi).symm
    rw [e] at h2
    exact List.Perm.cons_inv h2
   have:=bH f (p++[a]) (l.eraseIdx i) q (by rw [List.length_eraseIdx_of_lt hi];omega) hq
   simpa using this
def Wb (c:List Nat→List Int):Option (List Nat×List Int)→List (List Nat)→Option (List Nat×List Int)
 | b,[]=>b
 | b,o::l=>Wb c (match b with
  | none=>some (o,c o)
  | some (p,q)=>if (c o).length<q.length then some (o,c o) else some (p,q)) l
theorem bI (c:List Nat→List Int):∀ (l:List (List Nat)) (p:List Nat),∃ o,Wb c (some (p,c p)) l=some (o,c o)∧(o=p∨o∈l)∧(c o).length≤(c p).length∧(∀ x∈l,(c o).length≤(c x).length) ∧
  (o=p∨((c o).length<(c p).length∧∃ a b,l=a++o::b∧∀ x∈a,(c o).length<(c x).length))
 | [],p=>⟨p,rfl,.inl rfl,Nat.le_refl _,by simp,.inl rfl⟩
 | x::l,p=>by
  rw [Wb]
  by_cases hlt:(c x).length<(c p).length
  ·simp only [if_pos hlt]
   obtain ⟨o,h1,h2,h3,h4,h5⟩:=bI c l x
   refine ⟨o,h1,.inr ?_,by omega,?_,.inr ⟨by omega,?_⟩⟩
   ·rcases h2 with rfl | h2
    ·exact List.mem_cons_self
    ·exact List.mem_cons_of_mem _ h2
   ·intro y hy
    rcases List.mem_cons.1 hy with rfl | hy
    ·exact h3
    ·exact h4 y hy
   ·rcases h5 with rfl | ⟨h5,a,b,rfl,h6⟩
    ·exact ⟨[],l,rfl,by simp⟩
    ·exact ⟨x::a,b,rfl,fun y hy=>(List.mem_cons.1 hy).elim (fun e=>e▸h5) (h6 y)⟩
  ·simp only [if_neg hlt]
   obtain ⟨o,h1,h2,h3,h4,h5⟩:=bI c l p
   refine ⟨o,h1,h2.elim .inl fun h=>.inr (List.mem_cons_of_mem _ h),h3,?_,?_⟩
   ·intro y hy
    rcases List.mem_cons.1 hy with rfl | hy
    ·omega
    ·exact h4 y hy
   ·rcases h5 with rfl | ⟨h5,a,b,rfl,h6⟩
    ·exact .inl rfl
    ·exact .inr ⟨h5,x::a,b,rfl,fun y hy=>(List.mem_cons.1 hy).elim (fun e=>by rw [e];omega) (h6 y)⟩
theorem zP (c:List Nat→List Int) {l:List (List Nat)} (h:l≠[]):∃ o a b,Wb c none l=some (o,c o)∧l=a++o::b∧(∀ x∈l,(c o).length≤(c x).length)∧∀ x∈a,(c o).length<(c x).length:=by
 cases l with
 | nil=>exact absurd rfl h
 | cons p l =>
  obtain ⟨o,h1,h2,h3,h4,h5⟩:=bI c l p
  rcases h5 with rfl | ⟨h5,a,b,rfl,h6⟩
  ·exact ⟨o,[],l,h1,rfl,fun x hx=>(List.mem_cons.1 hx).elim (fun e=>e▸Nat.le_refl _) (h4 x),by simp⟩
  ·exact ⟨o,p::a,b,h1,rfl,fun x hx=>(List.mem_cons.1 hx).elim (fun e=>e▸h3) (h4 x),fun x hx=>(List.mem_cons.1 hx).elim (fun e=>e▸h5) (h6 x)⟩
section
variable {nv:List Int} {ed:Int→Nat×Nat} {S T:Int→Int→Bool} {U:List Int} {r0:List Int}
theorem nC (o:List Nat):(clF nv ed S U r0 o).Sublist U:=List.filter_sublist
end
def Nn (nv:List Int) (r:List Int) (o:List Nat):List Int:=o.foldl (fun r i=>r.set i (nv.getD i 0)) r
theorem qB (nv:List Int):∀ (o:List Nat) (r:List Int) (i:Nat),Jl nv r (o++[i])=Jl nv r o++[(Nn nv r o).set i (nv.getD i 0)]
 | [],r,i=>rfl
 | a::o,r,i=>by rw [List.cons_append,Jl,Jl,qB nv o,List.cons_append];rfl
theorem qC (nv:List Int):∀ (o:List Nat) (r:List Int),(Nn nv r o).length=r.length
 | [],_=>rfl
 | a::o,r=>by show (Nn nv (r.set a _) o).length=_;rw [qC nv o,List.length_set]
theorem qD {l:List Int} {i j:Nat} {x:Int} (h:i≠j):(l.set i x).getD j 0=l.getD j 0:=by
 rw [List.getD_eq_getElem?_getD,List.getElem?_set_ne h,← List.getD_eq_getElem?_getD]
theorem gA (nv:List Int):∀ (o:List Nat) (r:List Int) (j:Nat),j∉o→(Nn nv r o).getD j 0=r.getD j 0
 | [],_,_,_=>rfl
 | a::o,r,j,h=>by
  show (Nn nv (r.set a _) o).getD j 0=_
  rw [gA nv o _ j (fun h2=>h (List.mem_cons_of_mem _ h2)),qD (fun e=>h (by rw [e];exact List.mem_cons_self))]
theorem zQ {r:List Int} {i:Nat} {x:Int} (h:i<r.length):(r.set i x).set i (r.getD i 0)=r:=by
 rw [List.set_set,List.getD_eq_getElem?_getD,List.getElem?_eq_getElem h]
 exact List.set_getElem_self h
theorem gB (nv r0:List Int):∀ (o:List Nat) (r:List Int),o.Nodup→(∀ i∈o,i<r.length)→(∀ i∈o,r.getD i 0=r0.getD i 0) →
  Jl r0 (Nn nv r o) o.reverse=(Jl nv r o).reverse∧Nn r0 (Nn nv r o) o.reverse=r
 | [],r,_,_,_=>⟨rfl,rfl⟩
 | i::o,r,hn,hl,hr=>by
  rw [List.nodup_cons] at hn
  have hi:=hl i List.mem_cons_self
  obtain ⟨h1,h2⟩:=gB nv r0 o (r.set i (nv.getD i 0)) hn.2 (fun j hj=>by rw [List.length_set];exact hl j (List.mem_cons_of_mem _ hj)) (fun j hj=>by
   rw [qD (fun e=>hn.1 (by rw [e];exact hj))];exact hr j (List.mem_cons_of_mem _ hj))
  have hf:Nn nv r (i::o)=Nn nv (r.set i (nv.getD i 0)) o:=rfl
  have hb:(r.set i (nv.getD i 0)).set i (r0.getD i 0)=r:=by rw [← hr i List.mem_cons_self];exact zQ hi
  rw [hf,List.reverse_cons,qB,h1,h2,hb]
  refine ⟨by rw [Jl,List.reverse_cons],?_⟩
  show (o.reverse++[i]).foldl _ _=r
  rw [List.foldl_append]
  show (Nn r0 (Nn nv (r.set i (nv.getD i 0)) o) o.reverse).set i (r0.getD i 0)=r
  rw [h2,hb]
theorem tP {nv r0:List Int} {ed:Int→Nat×Nat} {S:Int→Int→Bool} {o:List Nat} (hn:o.Nodup) (hl:∀ i∈o,i<r0.length) (e:Int) :
  Tk r0 ed S (Nn nv r0 o) o.reverse e=Tk nv ed S r0 o e:=by
 unfold Tk
 rw [(gB nv r0 o r0 hn hl fun _ _=>rfl).1,List.all_reverse]
theorem cl_back {nv r0:List Int} {ed:Int→Nat×Nat} {S:Int→Int→Bool} {U:List Int} {o:List Nat} (hn:o.Nodup) (hl:∀ i∈o,i<r0.length) :
  clF r0 ed S U (Nn nv r0 o) o.reverse=clF nv ed S U r0 o:=by
 unfold clF
 congr 1
 funext e
 rw [tP hn hl]
theorem sub_len {l m:List Int} (hn:l.Nodup) (h:∀ e∈l,e∈m):l.length≤m.length:=by
 induction l generalizing m with
 | nil=>exact Nat.zero_le _
 | cons a l ih =>
  rw [List.nodup_cons] at hn
  have ha:=h a List.mem_cons_self
  have:=ih (m:=m.erase a) hn.2 fun e he=>(List.mem_erase_of_ne (fun e2=>hn.1 (by rw [← e2];exact he))).2 (h e (List.mem_cons_of_mem _ he))
  rw [List.length_erase_of_mem ha] at this
  have hm:0<m.length:=List.length_pos_of_mem ha
  rw [List.length_cons];omega
theorem Rv {l:List Int} (h:l.Nodup) {i:Nat} (hi:i<l.length):l[i]∉l.take i++l.drop (i+1):=by
 intro hm
 rcases List.mem_append.1 hm with hm | hm
 ·obtain ⟨j,hj,e⟩:=List.getElem_of_mem hm
  rw [List.length_take] at hj
  rw [List.getElem_take] at e
  exact (List.pairwise_iff_getElem.1 h) j i Dz hi Dz e
 ·obtain ⟨j,hj,e⟩:=List.getElem_of_mem hm
  rw [List.length_drop] at hj
  rw [List.getElem_drop] at e
  exact (List.pairwise_iff_getElem.1 h) i (i+1+j) hi Dz Dz e.symm
end Pl
