/- Part 8 of the walk through the functions that the laws of package fleet call: each function's contract, without conditions but those that its statement names. -/
import Derived.Test.YtkeplgdofphnkaaGreatDoorEG
set_option maxHeartbeats 4000000
set_option maxRecDepth 10000
set_option linter.unusedVariables false
set_option linter.unusedSimpArgs false
set_option linter.unusedSectionVars false
namespace Go.Proofs.YtkeplgdofphnkaaGreatDoor
open Go Go.Ex Go.RowKit Go.Proofs.Tryz
def srtB:List (List UInt8)→Bool
  | a::b::l=>!(Op.bytesLess b a) && (!(decide (b=a)) && srtB (b::l))
  | _=>true
theorem srtB_iff:∀ (l:List (List UInt8)),srtB l=true→srtN l
  | [],_=>fun i h=>by simp at h
  | [_],_=>fun i h=>by simp at h
  | a::b::l,h=>fun i hi=>by
    rw [srtB] at h
    simp only [Bool.and_eq_true,Bool.not_eq_true',decide_eq_false_iff_not] at h
    cases i with
    | zero=>exact ⟨h.1,h.2.1⟩
    | succ i =>
      have:=srtB_iff (b::l) h.2.2 i (by simpa using hi)
      simpa using this
structure NodM where
  vers:List Int
  runs:Int
  claims:Int
  up:Bool
deriving DecidableEq
structure FltM where
  progs:List ProgM
  nodes:List NodM
  edges:List (Int×Int)
  routes:List (List Int)
deriving DecidableEq
def noP:ProgM:=⟨[],[]⟩
def eK (e:Int×Int):Value:=K2 e.1 e.2
theorem KeyT.edge {P:Program} {t e:TypeId} (ht:P.underlying t=some (.array 2 e)) (hS:∀ w,(sizeOf e).run P w=.ok 1 w) (hA:∀ w,(isAgg e).run P w=.ok false w) (he:P.underlying e=some (.int .i64)):KeyT P t eK:=by
  refine KeyT.asked ht ?_ ?_ ?_ ?_
  · rintro ⟨a,b⟩ ⟨c,d⟩ h
    simp only [eK] at h
    obtain ⟨rfl,rfl⟩:=K2_inj.1 h
    rfl
  · rintro em ⟨a,b⟩ w
    exact checkKey_2 em 9998 ht hS hA he _ _
  · rintro ⟨a,b⟩ ⟨c,d⟩;rfl
  · rintro ⟨a,b⟩ ⟨c,d⟩ w
    show (Op.equalIn (9998+2) t _ _).run P w=_
    simp only [eK,K2]
    rw [equalIn_2 9998 ht hS hA he]
    congr 1
    rw [Bool.eq_iff_iff];simp only [Bool.and_eq_true,decide_eq_true_eq,Prod.mk.injEq]
def PgR (G:Ghost) (cs:List Value) (p:ProgM):Prop:=∃ vs vb,cs=[vs,vb]∧(Sts G vs p.stmts∧NilV vs p.stmts)∧(LN G vb p.blocks∧NilV vb p.blocks)
def NodR (G:Ghost) (cs:List Value) (x:NodM):Prop:=∃ v,cs=[v,Vi x.runs,Vi x.claims,.bool x.up]∧Ints G v x.vers
def EdR (_:Ghost) (cs:List Value) (e:Int×Int):Prop:=cs=[Vi e.1,Vi e.2]
def RtR (G:Ghost) (cs:List Value) (r:List Int):Prop:=∃ v,cs=[v]∧Ints G v r
def Pgs (G:Ghost) (v:Value) (l:List ProgM):Prop:=LstR 2 PgR G v l
def Nds (G:Ghost) (v:Value) (l:List NodM):Prop:=LstR 4 NodR G v l
def Eds (G:Ghost) (v:Value) (l:List (Int×Int)):Prop:=LstR 2 EdR G v l
def Rts (G:Ghost) (v:Value) (l:List (List Int)):Prop:=LstR 1 RtR G v l
theorem PgR.mono {G G':Ghost} (h:G.le G') {cs:List Value} {p:ProgM} (hp:PgR G cs p):PgR G' cs p:=by
  obtain ⟨vs,vb,e,⟨h1,k1⟩,⟨h2,k2⟩⟩:=hp
  exact ⟨vs,vb,e,⟨h1.mono h,k1⟩,⟨h2.mono h,k2⟩⟩
theorem NodR.mono {G G':Ghost} (h:G.le G') {cs:List Value} {x:NodM} (hp:NodR G cs x):NodR G' cs x:=by
  obtain ⟨v,e,h1⟩:=hp
  exact ⟨v,e,h1.mono h⟩
theorem RtR.mono {G G':Ghost} (h:G.le G') {cs:List Value} {r:List Int} (hp:RtR G cs r):RtR G' cs r:=by
  obtain ⟨v,e,h1⟩:=hp
  exact ⟨v,e,h1.mono h⟩
theorem EdR.mono {G G':Ghost} (_:G.le G') {cs:List Value} {e:Int×Int} (hp:EdR G cs e):EdR G' cs e:=hp
theorem Pgs.mono {G G':Ghost} (h:G.le G') {v:Value} {l:List ProgM} (hl:Pgs G v l):Pgs G' v l:=LstR.mono (fun _ _ hp=>hp.mono h) h hl
theorem Nds.mono {G G':Ghost} (h:G.le G') {v:Value} {l:List NodM} (hl:Nds G v l):Nds G' v l:=LstR.mono (fun _ _ hp=>hp.mono h) h hl
theorem Eds.mono {G G':Ghost} (h:G.le G') {v:Value} {l:List (Int×Int)} (hl:Eds G v l):Eds G' v l:=LstR.mono (R:=EdR) (G:=G) (G':=G') (fun _ _ hp=>hp) h hl
theorem Rts.mono {G G':Ghost} (h:G.le G') {v:Value} {l:List (List Int)} (hl:Rts G v l):Rts G' v l:=LstR.mono (fun _ _ hp=>hp.mono h) h hl
structure FltC (G:Ghost) (Ap An Ae Ar:Option Addr) (cp cn ce cr:Nat) (f:FltM):Prop where
  p:Pgs G (.slice Ap f.progs.length cp) f.progs
  n:Nds G (.slice An f.nodes.length cn) f.nodes
  e:Eds G (.slice Ae f.edges.length ce) f.edges
  r:Rts G (.slice Ar f.routes.length cr) f.routes
theorem FltC.mono {G G':Ghost} (h:G.le G') {Ap An Ae Ar:Option Addr} {cp cn ce cr:Nat} {f:FltM} (hf:FltC G Ap An Ae Ar cp cn ce cr f):FltC G' Ap An Ae Ar cp cn ce cr f :=
  ⟨hf.p.mono h,hf.n.mono h,hf.e.mono h,hf.r.mono h⟩
def fltL (Ap An Ae Ar:Option Addr) (cp cn ce cr:Nat) (f:FltM):List Value:=[.slice Ap f.progs.length cp,.slice An f.nodes.length cn,.slice Ae f.edges.length ce,.slice Ar f.routes.length cr]
def FltR (G:Ghost) (v:Value) (f:FltM):Prop:=∃ Ap An Ae Ar cp cn ce cr,v=.agg (fltL Ap An Ae Ar cp cn ce cr f).toArray∧FltC G Ap An Ae Ar cp cn ce cr f
theorem FltR.mono {G G':Ghost} (h:G.le G') {v:Value} {f:FltM} (hf:FltR G v f):FltR G' v f:=by
  obtain ⟨Ap,An,Ae,Ar,cp,cn,ce,cr,e,hf⟩:=hf
  exact ⟨Ap,An,Ae,Ar,cp,cn,ce,cr,e,hf.mono h⟩
theorem FltR.of {G:Ghost} {vp vn ve vr:Value} {f:FltM} (h1:Pgs G vp f.progs) (h2:Nds G vn f.nodes) (h3:Eds G ve f.edges) (h4:Rts G vr f.routes):FltR G (.agg #[vp,vn,ve,vr]) f:=by
  obtain ⟨Ap,cp,rfl⟩:=LstR.slice h1
  obtain ⟨An,cn,rfl⟩:=LstR.slice h2
  obtain ⟨Ae,ce,rfl⟩:=LstR.slice h3
  obtain ⟨Ar,cr,rfl⟩:=LstR.slice h4
  exact ⟨Ap,An,Ae,Ar,cp,cn,ce,cr,rfl,h1,h2,h3,h4⟩
structure FSz (f:FltM):Prop where
  n:f.nodes.length≤1000
  e:f.edges.length≤1000
  v:∀ x∈f.nodes,x.vers.length≤1000
  r:∀ x∈f.routes,x.length≤1000
def inB (x n:Int):Bool:=decide (0≤x∧x<n)
def outB (x n:Int):Bool:=!(inB x n)
theorem outB_T {x n:Int} (h:outB x n=true):inB x n=false:=by simpa [outB] using h
theorem outB_F {x n:Int} (h:outB x n=false):inB x n=true:=by simpa [outB] using h
def outsB (l:List Int) (n:Int):Bool:=!(l.all fun v=>inB v n)
def okP (p:ProgM):Bool:=goodP p && ((match boundM p 8 0 with | some z=>decide (z≤262144) | none=>false) && ((wlkB p 8 0 (⟨true,ofVs [0] []⟩,none)).isSome && (decide ((fldN p.stmts).length≤12) && srtB (fldN p.stmts))))
def OkP (p:ProgM):Prop:=okP p=true∨p=noP
def progE (p:ProgM):Int:=if p=noP then 1 else 0
def nodeB (np:Int) (x:NodM):Bool:=decide (1≤x.vers.length∧x.vers.length≤8) && (x.vers.all (fun v=>inB v np) && (inB x.runs x.vers.length && inB x.claims x.vers.length))
def edgesG (n:Int):List (Int×Int)→List (Int×Int)→Bool
  | _,[]=>true
  | seen,e::l=>!(decide (e∈seen)) && (inB e.1 n && (inB e.2 n && (!(decide (e.1=e.2)) && edgesG n (seen++[e]) l)))
def edgesB (n:Int) (l:List (Int×Int)):Bool:=edgesG n [] l
def linkB (edges:List (Int×Int)) (o:Option Int) (x:Int):Bool:=match o with | none=>true | some y=>decide ((y,x)∈edges)
def routeG (edges:List (Int×Int)):List Int→List Int→Bool
  | _,[]=>true
  | pre,x::l=>!(pre.contains x) && (linkB edges pre.getLast? x && routeG edges (pre++[x]) l)
def routeB (edges:List (Int×Int)) (r:List Int):Bool:=decide (2≤r.length∧r.length≤12) && routeG edges [] r
def checkE (f:FltM):Int :=
  if 16<f.progs.length∨24<f.nodes.length∨100<f.routes.length then 2
  else if f.progs.length=0∨f.nodes.length=0 then 1
  else if f.progs.all (fun p=>decide (¬ p=noP))=false then 1
  else if f.nodes.all (nodeB f.progs.length)=false then 1
  else if edgesB f.nodes.length f.edges=false then 1
  else if f.routes.all (routeB f.edges)=false then 300 else 0
theorem rchk_any {G:Ghost} {cs:List Value} {p:ProgM} (hp:PgR G cs p) (hk:OkP p) (hT:Tab G):FnOk prog 67 [.agg cs.toArray] G [] fun r _ H'=>H'=[]∧∃ a b c,r=.tuple #[.agg #[a,b,c],Vi (progE p)]∧([a,b,c].all fun x=>x.oneCell')=true:=by
  rcases hk with hk | rfl
  · obtain ⟨vs,vb,rfl,⟨h1,_⟩,⟨h2,_⟩⟩:=hp
    unfold okP at hk
    simp only [Bool.and_eq_true] at hk
    obtain ⟨hg,hz,hw,hn,hs⟩:=hk
    split at hz
    · rename_i z hb
      obtain ⟨R,hR⟩:=Option.isSome_iff_exists.1 hw
      have hne:progE p=0:=if_neg fun h=>by
        have:=(goodP_iff hg).2.2.1
        rw [h] at this;simp [noP] at this
      rw [hne]
      exact rchk_ok ⟨vs,vb,rfl,h1,h2⟩ hg hb (of_decide_eq_true hz) hR (of_decide_eq_true hn) (srtB_iff _ hs) hT
    · cases hz
  · obtain ⟨vs,vb,rfl,⟨_,h1⟩,⟨_,h2⟩⟩:=hp
    obtain rfl:=h1 rfl
    obtain rfl:=h2 rfl
    exact rchk0_ok
theorem inB_iff {x n:Int}:inB x n=true↔0≤x∧x<n:=decide_eq_true_iff
theorem keyE:KeyT prog 31 eK:=KeyT.edge underlying31 sizeOf3 isAgg3 underlying3
theorem edges_T {n:Int} {l:List (Int×Int)} {k:Nat} (h:k<l.length) (h1:¬ posK l[k] (l.take k)<(l.take k).length) (h2:inB l[k].1 n=true) (h3:inB l[k].2 n=true) (h4:¬ l[k].1=l[k].2) :
    edgesG n (l.take k) (l.drop k)=edgesG n (l.take (k+1)) (l.drop (k+1))∧(l.take (k+1)).Nodup=(l.take k++[l[k]]).Nodup:=by
  have hm:¬ l[k]∈l.take k:=fun h=>h1 (posK_mem.2 h)
  have he:l.take (k+1)=l.take k++[l[k]]:=by rw [List.take_add_one,List.getElem?_eq_getElem h];rfl
  constructor
  · rw [List.drop_eq_getElem_cons h,edgesG,he];simp [hm,h2,h3,h4]
  · rw [he]
theorem edges_F {n:Int} {l:List (Int×Int)} {k:Nat} (h:k<l.length) (h1:posK l[k] (l.take k)<(l.take k).length∨inB l[k].1 n=false∨inB l[k].2 n=false∨l[k].1=l[k].2):edgesG n (l.take k) (l.drop k)=false:=by
  rw [List.drop_eq_getElem_cons h,edgesG]
  rcases h1 with h1 | h1 | h1 | h1
  · have:=posK_mem.1 h1
    simp [this]
  · simp [h1]
  · simp [h1]
  · simp [h1]
theorem nodup_snoc {α:Type} {l:List α} {k:Nat} (h:k<l.length) (hn:(l.take k).Nodup) (hm:¬ l[k]∈l.take k):(l.take (k+1)).Nodup:=by
  have he:l.take (k+1)=l.take k++[l[k]]:=by rw [List.take_add_one,List.getElem?_eq_getElem h];rfl
  rw [he,List.nodup_append]
  exact ⟨hn,by simp,fun a ha b hb e=>hm (by rw [List.mem_singleton.1 hb] at e;rw [← e];exact ha)⟩
theorem fin_ok {G:Ghost} {x n:Int} :
  FnOk prog 35 [Vi x,Vi n] G [] fun r _ H'=>H'=[]∧r=.bool (inB x n):=by
 refine FnOk.of_T [(0,_),(1,_)] func35 rfl ntmps35 sM rfl fun w0 hs =>Wt 7 [0] hs rfl<|Zy hs (Yc rfl (fun h6=>?_) fun h6=>?_)
 ·
  refine Wp 3 [] hs rfl<|Zg hs rfl (Yc rfl (fun h10=>?_) fun h10=>?_)
  ·
   refine Wp 3 [0] hs rfl<|T_ret<|Zz results35 rfl ?_
   exact ⟨_,[],hs.done,rfl,congrArg Value.bool (by unfold inB;rw [eq_comm];exact decide_eq_true oM)⟩
  refine Wp 3 [0] hs rfl<|T_ret<|Zz results35 rfl ?_
  exact ⟨_,[],hs.done,rfl,congrArg Value.bool (by unfold inB;rw [eq_comm];exact decide_eq_false oM)⟩
 refine Wp 7 [0] hs rfl<|T_ret<|Zz results35 rfl ?_
 exact ⟨_,[],hs.done,rfl,congrArg Value.bool (by unfold inB;rw [eq_comm];exact decide_eq_false oM)⟩
theorem fchk1_ok {G:Ghost} {b1:Nat} {x:Int} {Ap An Ae Ar:Option Addr} {cp cn ce cr:Nat} {f:FltM} (hQ1:BlkAt G b1 [.slice Ap f.progs.length cp,.slice An f.nodes.length cn,.slice Ae f.edges.length ce,.slice Ar f.routes.length cr]) :
  FnOk prog 69 [Vi x,Vp b1] G [] fun r _ H'=>H'=[]∧r=.bool (outB x f.progs.length):=by
 refine FnOk.of_T [(0,_),(1,_)] func69 rfl ntmps69 sM rfl fun w0 hs=>?_
 have hQ10:=hQ1
 refine Wt 8 [0,0] hs rfl<|Zy hs (Yg rfl (hQ1 0 _ rfl)<|Wp 1 [] hs rfl<|O_s (Sc (fin_ok) hs rfl fun v1 G' H' _ hR hG8 hs=>?_))
 obtain ⟨rfl,rfl⟩:=hR
 replace hs:=hs.n rfl
 refine Wp 3 [0] hs rfl<|T_ret<|Zz results69 rfl ?_
 exact ⟨_,[],hs.done,rfl,rfl⟩
theorem idxf_ok {G:Ghost} {b1:Nat} {v:Value} {l:List Int} {Ap An Ae Ar:Option Addr} {cp cn ce cr:Nat} {f:FltM} (hQ1:BlkAt G b1 [.slice Ap f.progs.length cp,.slice An f.nodes.length cn,.slice Ae f.edges.length ce,.slice Ar f.routes.length cr]) (hl:Ints G v l) (hn:l.length≤1000) :
  FnOk prog 103 [v,.func (.func 69) #[] #[Vp b1]] G [] fun r _ H'=>H'=[]∧∃ z,r=Vi z∧(0≤z↔l.all (fun v=>inB v f.progs.length)=false):=by
 obtain ⟨Al,cl,rfl,_⟩:=id hl
 refine FnOk.of_T [(0,_),(1,_)] func103 rfl ntmps103 sM rfl fun w0 hs=>?_
 have hQ10:=hQ1
 have hl0:=hl
 refine Wt 11 [0,0] hs rfl<|Zl [0,1,7,8] (fun m E w=>∃ (k:Nat) (G2:Ghost),k≤l.length∧(l.take k).all (fun v=>inB v f.progs.length)=true∧m=l.length-k∧E=⟨[],[(0,(.slice Al l.length cl)),(1,.func (.func 69) #[] #[Vp b1]),(7,Vi ((l.length:Nat):Int)),(8,Vi (k:Int))]⟩∧St ⟨w0,G,feet []⟩ G2 [] w) rfl (⟨0,_,by omega,by rw [List.take_zero];rfl,rfl,rfl,hs⟩) fun m E w hI=>?_
 obtain ⟨k,G2,hk,ha,rfl,rfl,hs⟩:=hI
 have hQ1:=hQ10.mono hs.le
 have hl:=hl0.mono hs.le
 refine Wt 2 [] hs rfl<|Zy hs (Yc rfl (fun h9=>?_) fun h9=>?_)
 ·
  refine Wp 16 [0,0] hs rfl<|Zy hs (Y_idxI hl k underlying45 sizeOf3 rfl rfl rfl oM fun p14 hp14=>?_)
  obtain ⟨x,hxe⟩:∃ x,x=l[k]'oM:=⟨_,rfl⟩
  rw [← hxe] at hp14
  refine Zy hs (Yg rfl (hp14)<|O_s (S_callV (args:=[_]) (lb:=[_]) (H1:=[]) hs rfl rfl func69 rfl kR (fchk1_ok hQ1 (f:=f) (x:=x)) fun v1 G' H' _ hR hG16 hs=>?_))
  obtain ⟨rfl,rfl⟩:=hR
  replace hs:=hs.n rfl
  cases h16:outB x (f.progs.length:Int)
  ·
   refine Wp 4 [0] hs rfl<|Zy hs (Ya (s:=((k+1:Nat):Int)) rfl<|Wp 1 [] hs rfl<|Zx [0,1,7,8] rfl ⟨k+1,_,by omega,by rw [List.take_add_one,List.getElem?_eq_getElem oM,← hxe,List.all_append,ha];simp [outB_F h16],rfl,rfl,hs⟩)
  refine Wp 7 [0,0] hs rfl<|T_ret<|Zz results103 rfl ?_
  exact ⟨_,[],hs.done,rfl,_,rfl,fun _=>by rw [List.all_eq_false];exact ⟨x,by rw [hxe];exact List.getElem_mem _,by simp [outB_T h16]⟩,fun _=>by omega⟩
 refine Wp 4 [0] hs rfl<|Wu 4 [0] hs rfl<|T_ret<|Zz results103 rfl ?_
 obtain rfl:k=l.length:=by omega
 rw [List.take_length] at ha
 exact ⟨_,[],hs.done,rfl,_,rfl,fun h=>by omega,fun h=>by rw [ha] at h;cases h⟩
theorem conf_ok {G:Ghost} {b1:Nat} {v:Value} {l:List Int} {Ap An Ae Ar:Option Addr} {cp cn ce cr:Nat} {f:FltM} (hQ1:BlkAt G b1 [.slice Ap f.progs.length cp,.slice An f.nodes.length cn,.slice Ae f.edges.length ce,.slice Ar f.routes.length cr]) (hl:Ints G v l) (hn:l.length≤1000) :
  FnOk prog 68 [v,.func (.func 69) #[] #[Vp b1]] G [] fun r _ H'=>H'=[]∧r=.bool (outsB l f.progs.length):=by
 refine FnOk.of_T [(0,_),(1,_)] func68 rfl ntmps68 sM rfl fun w0 hs=>?_
 have hQ10:=hQ1
 have hl0:=hl
 refine Wt 8 [0] hs rfl<|O_s (Sc (idxf_ok hQ1 hl hn (f:=f)) hs rfl fun v1 G' H' _ hR hG7 hs=>?_)
 obtain ⟨rfl,z,rfl,hz⟩:=hR
 replace hs:=hs.n rfl
 refine Zy hs (Yc rfl (fun h8=>?_) fun h8=>?_)
 ·
  refine Wp 2 [0] hs rfl<|T_ret<|Zz results68 rfl ?_
  exact ⟨_,[],hs.done,rfl,congrArg Value.bool (by unfold outsB;rw [hz.1 oM];rfl)⟩
 refine Wp 2 [0] hs rfl<|T_ret<|Zz results68 rfl ?_
 exact ⟨_,[],hs.done,rfl,congrArg Value.bool (by unfold outsB;rw [eq_comm,Bool.not_eq_false'];exact eq_true_of_ne_false fun h=>absurd (hz.2 h) oM)⟩
theorem fnum_ok {G:Ghost} {Ap An Ae Ar:Option Addr} {cp cn ce cr:Nat} {f:FltM} (hf:FltC G Ap An Ae Ar cp cn ce cr f) (hz:FSz f) :
  FnOk prog 70 [(.agg (fltL Ap An Ae Ar cp cn ce cr f).toArray)] G [] fun r _ H'=>(edgesB f.nodes.length f.edges=true∧∃ b,r=.tuple #[.map (some b),Vt]∧H'=[.obj b (.map (esOf eK f.edges).toArray f.edges.length)])∨(edgesB f.nodes.length f.edges=false∧r=.tuple #[.map none,Vf]∧H'=[]):=by
 have hE:=hf.e
 have hez:=hz.e
 show FnOk _ _ [.agg #[.slice Ap f.progs.length cp,.slice An f.nodes.length cn,.slice Ae f.edges.length ce,.slice Ar f.routes.length cr]] _ _ _
 refine FnOk.of_T [(0,_)] func70 rfl ntmps70 sM rfl fun w0 hs=>?_
 have hE0:=hE
 refine Wt 2 [] hs rfl<|O_s (Sb hs rfl fun b1 _ hs=>Wp 5 [0] hs rfl<|O_s (S_makeMap hs fun b9 _ hs =>Wp 10 [0,2,1,0] hs rfl ?_))
 have hs:=hs.f1.f1
 refine Zl [1,4,11,12,13] (fun m E w=>∃ (k:Nat) (G2:Ghost),k≤f.edges.length∧edgesG f.nodes.length [] f.edges=edgesG f.nodes.length (f.edges.take k) (f.edges.drop k)∧(f.edges.take k).Nodup∧m=f.edges.length-k∧E=⟨[],[(1,Vp b1),(4,.map (some b9)),(11,.slice Ae f.edges.length ce),(12,Vi ((f.edges.length:Nat):Int)),(13,Vi (k:Int))]⟩∧St ⟨w0,G,feet []⟩ G2 [.obj b9 (.map (esOf eK (f.edges.take k)).toArray (f.edges.take k).length),.blk b1 38 [.slice Ap f.progs.length cp,.slice An f.nodes.length cn,.slice Ae f.edges.length ce,.slice Ar f.routes.length cr]] w) rfl (⟨0,_,by omega,rfl,by simp,rfl,rfl,hs⟩) fun m E w hI=>?_
 obtain ⟨k,G2,hk,hfo,hnd,rfl,rfl,hs⟩:=hI
 have hE:=hE0.mono hs.le
 refine Wt 2 [] hs rfl<|Zy hs (Yc rfl (fun h14=>?_) fun h14=>?_)
 ·
  refine Wp 9 [0] hs rfl<|Zy hs (Y_idxS hE k underlying35 sizeOf31 rfl rfl rfl oM fun p16 c16 hp16 hc16 hR16 =>Zy hs (Y_ldAG (vs:=[Vi f.edges[k].1,Vi f.edges[k].2]) isAgg31 sizeOf31 rfl (hR16▸hp16) rfl<|O_s (Sa hs zeroValue31 rfl fun b6 _ hs=>Wp 1 [] hs rfl<|O_n (Sg hs rfl (rfl) fun _ hs=>Wp 6 [0,0] hs rfl<|Zy hs (Y_lookupK (a:=f.edges[k]) 1 rfl underlying76 keyE zeroValue3 hnd rfl rfl (fun hno=>?_) (fun hyes=>?_))))))
  ·
   refine Wp 10 [0] hs rfl<|Zg hs rfl (Y_idxArr 0 underlying31 sizeOf3 rfl rfl rfl dC (m:=0) rfl<|Wp 4 [0,1,2] hs rfl<|O_yes 25 rfl rfl (Sc (fin_ok) hs rfl fun v1 G' H' _ hR hG31 hs=>?_))
   obtain ⟨rfl,rfl⟩:=hR
   replace hs:=hs.n rfl
   cases h31:inB f.edges[k].1 (f.nodes.length:Int)
   ·
    refine Wp 25 [8,1,4,5,6,11,12,13,49,0] hs rfl<|T_ret ?_
    refine Rt_fin (vs:=[_,_]) results70 rfl ⟨rfl,rfl,trivial⟩ ?_
    try dsimp only [tup]
    exact ⟨_,[],hs.done,.inr ⟨by unfold edgesB;rw [hfo];exact edges_F oM (.inr (.inl h31)),rfl,rfl⟩⟩
   refine Wp 3 [] hs rfl<|Zg hs rfl (Y_idxArr 1 underlying31 sizeOf3 rfl rfl rfl dC (m:=1) rfl<|Wp 4 [0,1,2] hs rfl<|O_yes 34 rfl rfl (Sc (fin_ok) hs rfl fun v2 G' H' _ hR hG40 hs=>?_))
   obtain ⟨rfl,rfl⟩:=hR
   replace hs:=hs.n rfl
   cases h40:inB f.edges[k].2 (f.nodes.length:Int)
   ·
    refine Wp 16 [8,1,4,5,6,11,12,13,49,0] hs rfl<|T_ret ?_
    refine Rt_fin (vs:=[_,_]) results70 rfl ⟨rfl,rfl,trivial⟩ ?_
    try dsimp only [tup]
    exact ⟨_,[],hs.done,.inr ⟨by unfold edgesB;rw [hfo];exact edges_F oM (.inr (.inr (.inl h40))),rfl,rfl⟩⟩
   refine Wp 3 [] hs rfl<|Zg hs rfl (Y_idxArr 0 underlying31 sizeOf3 rfl rfl rfl dC (m:=0) rfl<|Wp 1 [0] hs rfl<|Zg hs rfl (Y_idxArr 1 underlying31 sizeOf3 rfl rfl rfl dC (m:=1) rfl<|Wp 1 [0] hs rfl<|Zg hs rfl (Yc rfl (fun h48=>?_) fun h48=>?_)))
   ·
    refine Wp 8 [8,1,4,5,6,11,12,13,49,0] hs rfl<|T_ret ?_
    refine Rt_fin (vs:=[_,_]) results70 rfl ⟨rfl,rfl,trivial⟩ ?_
    try dsimp only [tup]
    exact ⟨_,[],hs.done,.inr ⟨by unfold edgesB;rw [hfo];exact edges_F oM (.inr (.inr (.inr h48))),rfl,rfl⟩⟩
   refine Wp 8 [8,1,4,5,6,11,12,13,49,0] hs rfl<|O_n (S_putK (a:=f.edges[k]) hs.f1 underlying76 keyE hnd hno rfl rfl (by rw [List.length_take,Nat.min_eq_left oM];rfl) fun _ hs =>Wp 2 [0] hs rfl<|Zy hs (Ya (s:=((k+1:Nat):Int)) rfl<|Wp 1 [] hs rfl ?_))
   have hs:=hs.f2.f1
   have hst:=edges_T oM hno h31 h40 h48
   refine Zx [1,4,11,12,13] rfl ⟨k+1,_,by omega,by rw [hfo,hst.1],nodup_snoc oM hnd (fun h=>hno (posK_mem.2 h)),rfl,rfl,castH (hs.weak hs.le (Ghost.le.refl _) (List.sublist_append_left [_,_] _)) (by rw [List.take_add_one,List.getElem?_eq_getElem oM];rfl)⟩
  refine Wp 41 [0,8,1,4,5,6,11,12,13,49,0] hs rfl<|T_ret ?_
  refine Rt_fin (vs:=[_,_]) results70 rfl ⟨rfl,rfl,trivial⟩ ?_
  try dsimp only [tup]
  exact ⟨_,[],hs.done,.inr ⟨by unfold edgesB;rw [hfo];exact edges_F oM (.inl hyes),rfl,rfl⟩⟩
 refine Wp 4 [0] hs rfl<|Wu 6 [0] hs rfl<|T_ret ?_
 refine Rt_fin (vs:=[_,_]) results70 rfl ⟨rfl,rfl,trivial⟩ ?_
 try dsimp only [tup]
 obtain rfl:k=f.edges.length:=by omega
 rw [List.take_length] at hs
 exact ⟨_,_,hs.weak hs.le (Ghost.le.refl _) (List.sublist_append_left [_] _),.inl ⟨by unfold edgesB;rw [hfo,List.drop_length];rfl,b9,rfl,rfl⟩⟩
theorem last_take {l:List Int} {k:Nat} (h:k<l.length) (h0:¬ k=0):(l.take k).getLast?=some (l[k-1]'oM):=by
  rw [List.getLast?_eq_getElem?,List.length_take,Nat.min_eq_left oM,List.getElem?_take_of_lt oM,List.getElem?_eq_getElem oM]
theorem take_succ' {α:Type} {l:List α} {k:Nat} (h:k<l.length):l.take (k+1)=l.take k++[l[k]]:=by rw [List.take_add_one,List.getElem?_eq_getElem h];rfl
theorem route_go {es:List (Int×Int)} {l:List Int} {k:Nat} (h:k<l.length) (h1:(l.take k).contains l[k]=false) (h2:k=0∨linkB es (l.take k).getLast? l[k]=true):routeG es (l.take k) (l.drop k)=routeG es (l.take (k+1)) (l.drop (k+1)):=by
  rw [List.drop_eq_getElem_cons h,routeG,take_succ' h,h1]
  rcases h2 with rfl | h2
  · simp [linkB]
  · simp [h2]
theorem route_no {es:List (Int×Int)} {l:List Int} {k:Nat} (h:k<l.length) (h1:(l.take k).contains l[k]=true∨linkB es (l.take k).getLast? l[k]=false):routeG es (l.take k) (l.drop k)=false:=by
  rw [List.drop_eq_getElem_cons h,routeG]
  rcases h1 with h1 | h1
  · rw [h1];rfl
  · rw [h1];simp
theorem link_T {es:List (Int×Int)} {l:List Int} {k:Nat} (h:k<l.length) (h0:¬ k=0) (hp:posK ((l[k-1]'oM),l[k]) es<es.length):linkB es (l.take k).getLast? l[k]=true:=by
  rw [last_take h h0];exact decide_eq_true (posK_mem.1 hp)
theorem link_F {es:List (Int×Int)} {l:List Int} {k:Nat} (h:k<l.length) (h0:¬ k=0) (hp:¬ posK ((l[k-1]'oM),l[k]) es<es.length):linkB es (l.take k).getLast? l[k]=false:=by
  rw [last_take h h0];exact decide_eq_false fun hm=>hp (posK_mem.2 hm)
theorem frte_ok {G:Ghost} {b:Nat} {v:Value} {es:List (Int×Int)} {l:List Int} (hnd:es.Nodup) (hl:Ints G v l) (hn:l.length≤1000) :
  FnOk prog 71 [.map (some b),v] G [.obj b (.map (esOf eK es).toArray es.length)] fun r _ H'=>r=.bool (routeB es l)∧H'=[.obj b (.map (esOf eK es).toArray es.length)]:=by
 obtain ⟨Al,cl,rfl,_⟩:=id hl
 refine FnOk.of_T [(0,_),(1,_)] func71 rfl ntmps71 sM rfl fun w0 hs=>?_
 have hl0:=hl
 refine Wt 9 [0] hs rfl<|Zy hs (Yc rfl (fun h11=>?_) fun h11=>?_)
 ·
  refine Wp 11 [0,0] hs rfl<|T_ret<|Zz results71 rfl ?_
  exact ⟨_,_,hs,congrArg Value.bool (by rw [eq_comm];unfold routeB;rw [decide_eq_false oM];rfl),rfl⟩
 refine Wp 3 [] hs rfl<|Zg hs rfl (Yc rfl (fun h15=>?_) fun h15=>?_)
 ·
  refine Wp 7 [0,0] hs rfl<|T_ret<|Zz results71 rfl ?_
  exact ⟨_,_,hs,congrArg Value.bool (by rw [eq_comm];unfold routeB;rw [decide_eq_false oM];rfl),rfl⟩
 refine Wp 11 [0,0] hs rfl<|Zl [0,1,17,18,19] (fun m E w=>∃ (k:Nat) (G2:Ghost),k≤l.length∧routeG es [] l=routeG es (l.take k) (l.drop k)∧m=l.length-k∧E=⟨[],[(0,.map (some b)),(1,(.slice Al l.length cl)),(17,(.slice Al l.length cl)),(18,Vi ((l.length:Nat):Int)),(19,Vi (k:Int))]⟩∧St ⟨w0,G,feet [.obj b (.map (esOf eK es).toArray es.length)]⟩ G2 [.obj b (.map (esOf eK es).toArray es.length)] w) rfl (⟨0,_,by omega,by simp,rfl,rfl,hs⟩) fun m E w hI=>?_
 obtain ⟨k,G2,hk,hfo,rfl,rfl,hs⟩:=hI
 have hl:=hl0.mono hs.le
 refine Wt 2 [] hs rfl<|Zy hs (Yc rfl (fun h20=>?_) fun h20=>?_)
 ·
  refine Wp 9 [0] hs rfl<|Zy hs (Y_idxI hl k underlying45 sizeOf3 rfl rfl rfl oM fun p22 hp22 =>Zy hs (Yg rfl (hp22)<|Wp 8 [0] hs rfl<|Zy hs (Y_sliceI hl 0 k underlying45 sizeOf3 rfl rfl ⟨_,_,rfl,rfl⟩ oM oM fun s26 hs26=>?_)))
  obtain ⟨A26,c26,rfl,_⟩:=id hs26
  refine Wp 1 [] hs rfl<|O_s (Sc (scon_ok hs26 Z50) hs rfl fun v1 G' H' _ hR hG28 hs=>?_)
  obtain ⟨rfl,rfl⟩:=hR
  replace hs:=hs.n rfl
  replace hl:=hl.mono hG28
  cases h28:((l.drop 0).take (k-0)).contains (l[k]'oM)
  ·
   refine Wp 7 [0] hs rfl<|Zy hs (Yc rfl (fun h30=>?_) fun h30=>?_)
   ·
    refine Wp 4 [0] hs rfl<|Zy hs (Ya (s:=((k+1:Nat):Int)) rfl<|Wp 1 [] hs rfl ?_)
    have hst:=route_go (es:=es) (l:=l) (k:=k) oM (by simpa using h28) (.inl oM)
    refine Zx [0,1,17,18,19] rfl ⟨k+1,_,by omega,by rw [hfo,hst],rfl,rfl,hs⟩
   refine Wp 8 [0] hs rfl<|Zy hs (Y_sub (c:=((k-1:Nat):Int)) rfl rfl oM oM<|Zy hs (Y_idxI hl (k-1) underlying45 sizeOf3 rfl rfl rfl oM fun p36 hp36 =>Zy hs (Yg rfl (hp36)<|Wp 1 [] hs rfl<|Zy hs (Y_buildA underlying31 sizeOf3 zeroValue31 rfl rfl (cs:=[_,_]) rfl<|Zy hs (Y_lookupK (a:=((l[k-1]'oM),(l[k]'oM))) 0 rfl underlying76 keyE zeroValue3 hnd rfl rfl (fun hno=>?_) (fun hyes=>?_))))))
   ·
    refine Wp 16 [6,0,1,8,17,18,19,0,0] hs rfl<|T_ret<|Zz results71 rfl ?_
    exact ⟨_,_,hs,congrArg Value.bool (by rw [eq_comm];unfold routeB;rw [decide_eq_true oM,Bool.true_and,hfo];exact route_no oM (.inr (link_F oM oM hno))),rfl⟩
   refine Wp 14 [6,0,1,8,17,18,19,0] hs rfl<|Zy hs (Ya (s:=((k+1:Nat):Int)) rfl<|Wp 1 [] hs rfl ?_)
   have hst:=route_go (es:=es) (l:=l) (k:=k) oM (by simpa using h28) (.inr (link_T oM oM hyes))
   refine Zx [0,1,17,18,19] rfl ⟨k+1,_,by omega,by rw [hfo,hst],rfl,rfl,hs⟩
  refine Wp 6 [0,0] hs rfl<|T_ret<|Zz results71 rfl ?_
  exact ⟨_,_,hs,congrArg Value.bool (by rw [eq_comm];unfold routeB;rw [decide_eq_true oM,Bool.true_and,hfo];exact route_no oM (.inl (by simpa using h28))),rfl⟩
 refine Wp 4 [0] hs rfl<|Wu 4 [0] hs rfl<|T_ret<|Zz results71 rfl ?_
 obtain rfl:k=l.length:=by omega
 exact ⟨_,_,hs,congrArg Value.bool (by rw [eq_comm];unfold routeB;rw [decide_eq_true oM,Bool.true_and,hfo];rw [List.drop_length];rfl),rfl⟩
theorem fnum_T {G:Ghost} {Ap An Ae Ar:Option Addr} {cp cn ce cr:Nat} {f:FltM} (hf:FltC G Ap An Ae Ar cp cn ce cr f) (hz:FSz f) (h:edgesB f.nodes.length f.edges=true):FnOk prog 70 [(.agg (fltL Ap An Ae Ar cp cn ce cr f).toArray)] G [] fun r _ H'=>∃ b,r=.tuple #[.map (some b),Vt]∧H'=[.obj b (.map (esOf eK f.edges).toArray f.edges.length)]:=by
  refine (fnum_ok hf hz).mono fun r G' H' _ h2=>?_
  rcases h2 with ⟨_,h2⟩ | ⟨h3,_⟩
  · exact h2
  · rw [h] at h3;cases h3
theorem fnum_F {G:Ghost} {Ap An Ae Ar:Option Addr} {cp cn ce cr:Nat} {f:FltM} (hf:FltC G Ap An Ae Ar cp cn ce cr f) (hz:FSz f) (h:edgesB f.nodes.length f.edges=false):FnOk prog 70 [(.agg (fltL Ap An Ae Ar cp cn ce cr f).toArray)] G [] fun r _ H'=>H'=[]∧r=.tuple #[.map none,Vf]:=by
  refine (fnum_ok hf hz).mono fun r G' H' _ h2=>?_
  rcases h2 with ⟨h3,_⟩ | ⟨_,h4,h5⟩
  · rw [h] at h3;cases h3
  · exact ⟨h5,h4⟩
theorem edgesG_nodup {n:Int}:∀ (l s:List (Int×Int)),s.Nodup→edgesG n s l=true→(s++l).Nodup
  | [],s,hs,_=>by simpa using hs
  | e::l,s,hs,h=>by
    rw [edgesG] at h
    simp only [Bool.and_eq_true,Bool.not_eq_true',decide_eq_false_iff_not] at h
    have:=edgesG_nodup l (s++[e]) (by
      rw [List.nodup_append]
      exact ⟨hs,by simp,fun a ha b hb e'=>h.1 (by rw [List.mem_singleton.1 hb] at e';rw [← e'];exact ha)⟩) h.2.2.2.2
    simpa using this
theorem edgesB_nodup {n:Int} {l:List (Int×Int)} (h:edgesB n l=true):l.Nodup:=by simpa using edgesG_nodup l [] List.nodup_nil h
theorem node_no {np:Int} {x:NodM} (h:x.vers.length<1∨8<x.vers.length∨outsB x.vers np=true∨inB x.runs x.vers.length=false∨inB x.claims x.vers.length=false):nodeB np x=false:=by
  unfold nodeB
  rcases h with h | h | h | h | h
  · rw [decide_eq_false oM];rfl
  · rw [decide_eq_false oM];rfl
  · unfold outsB at h
    rw [Bool.not_eq_true'] at h
    rw [h];simp
  · rw [h];simp
  · rw [h];simp
theorem node_yes {np:Int} {x:NodM} (h1:¬ x.vers.length<1) (h2:¬ 8<x.vers.length) (h3:outsB x.vers np=false) (h4:inB x.runs x.vers.length=true) (h5:inB x.claims x.vers.length=true):nodeB np x=true:=by
  unfold nodeB
  unfold outsB at h3
  rw [Bool.not_eq_false'] at h3
  rw [decide_eq_true oM,h3,h4,h5];rfl
theorem all_T {α:Type} {l:List α} {q:α→Bool} {k:Nat} (h:k<l.length) (h1:(l.take k).all q=true) (h2:q l[k]=true):(l.take (k+1)).all q=true:=by
  rw [take_succ' h,List.all_append,h1];simp [h2]
theorem all_F {α:Type} {l:List α} {q:α→Bool} {k:Nat} (h:k<l.length) (h2:q l[k]=false):l.all q=false:=List.all_eq_false.2 ⟨l[k],List.getElem_mem _,by simp [h2]⟩
section
variable {f:FltM}
theorem ce_big (h:16<f.progs.length∨24<f.nodes.length∨100<f.routes.length):checkE f=2:=if_pos h
theorem ce_none (h0:¬ (16<f.progs.length∨24<f.nodes.length∨100<f.routes.length)) (h:f.progs.length=0∨f.nodes.length=0):checkE f=1:=by unfold checkE;rw [if_neg h0,if_pos h]
theorem ce_prog (h0:¬ (16<f.progs.length∨24<f.nodes.length∨100<f.routes.length)) (h1:¬ (f.progs.length=0∨f.nodes.length=0)) (h:f.progs.all (fun p=>decide (¬ p=noP))=false):checkE f=1:=by unfold checkE;rw [if_neg h0,if_neg h1,if_pos h]
theorem ce_node (h0:¬ (16<f.progs.length∨24<f.nodes.length∨100<f.routes.length)) (h1:¬ (f.progs.length=0∨f.nodes.length=0)) (h2:f.progs.all (fun p=>decide (¬ p=noP))=true) (h:f.nodes.all (nodeB f.progs.length)=false):checkE f=1:=by
  unfold checkE;rw [if_neg h0,if_neg h1,if_neg (by rw [h2];simp),if_pos h]
theorem ce_edge (h0:¬ (16<f.progs.length∨24<f.nodes.length∨100<f.routes.length)) (h1:¬ (f.progs.length=0∨f.nodes.length=0)) (h2:f.progs.all (fun p=>decide (¬ p=noP))=true) (h3:f.nodes.all (nodeB f.progs.length)=true) (h:edgesB f.nodes.length f.edges=false):checkE f=1:=by
  unfold checkE;rw [if_neg h0,if_neg h1,if_neg (by rw [h2];simp),if_neg (by rw [h3];simp),if_pos h]
theorem ce_route (h0:¬ (16<f.progs.length∨24<f.nodes.length∨100<f.routes.length)) (h1:¬ (f.progs.length=0∨f.nodes.length=0)) (h2:f.progs.all (fun p=>decide (¬ p=noP))=true) (h3:f.nodes.all (nodeB f.progs.length)=true) (h4:edgesB f.nodes.length f.edges=true) (h:f.routes.all (routeB f.edges)=false):checkE f=300:=by
  unfold checkE;rw [if_neg h0,if_neg h1,if_neg (by rw [h2];simp),if_neg (by rw [h3];simp),if_neg (by rw [h4];simp),if_pos h]
theorem ce_ok (h0:¬ (16<f.progs.length∨24<f.nodes.length∨100<f.routes.length)) (h1:¬ (f.progs.length=0∨f.nodes.length=0)) (h2:f.progs.all (fun p=>decide (¬ p=noP))=true) (h3:f.nodes.all (nodeB f.progs.length)=true) (h4:edgesB f.nodes.length f.edges=true) (h:f.routes.all (routeB f.edges)=true):checkE f=0:=by
  unfold checkE;rw [if_neg h0,if_neg h1,if_neg (by rw [h2];simp),if_neg (by rw [h3];simp),if_neg (by rw [h4];simp),if_neg (by rw [h];simp)]
end
theorem fchk_ok {G:Ghost} {Ap An Ae Ar:Option Addr} {cp cn ce cr:Nat} {f:FltM} (hf:FltC G Ap An Ae Ar cp cn ce cr f) (hz:FSz f) (hP:∀ p∈f.progs,OkP p) (hT:Tab G) :
  FnOk prog 39 [(.agg (fltL Ap An Ae Ar cp cn ce cr f).toArray)] G [] fun r _ H'=>(checkE f=0∧∃ b,r=.tuple #[.map (some b),Vi 0]∧H'=[.obj b (.map (esOf eK f.edges).toArray f.edges.length)])∨(¬ checkE f=0∧r=.tuple #[.map none,Vi (checkE f)]∧H'=[]):=by
 have hez:=hz.e
 have hnz:=hz.n
 show FnOk _ _ [.agg #[.slice Ap f.progs.length cp,.slice An f.nodes.length cn,.slice Ae f.edges.length ce,.slice Ar f.routes.length cr]] _ _ _
 refine FnOk.of_T [(0,_)] func39 rfl ntmps39 sM rfl fun w0 hs=>?_
 have hf0:=hf
 have hT0:=hT
 refine Wt 2 [] hs rfl<|O_s (Sb hs rfl fun b1 _ hs=>Wp 9 [0,0,0] hs rfl<|Zy hs (Yc rfl (fun h19=>?_) fun h19=>?_))
 ·
  refine Wp 19 [2,1,31,0] hs rfl<|T_ret ?_
  refine Rt_fin (vs:=[_,_]) results39 rfl ⟨rfl,rfl,trivial⟩ ?_
  try dsimp only [tup]
  have hce:=ce_big (f:=f) oM
  exact ⟨_,[],hs.done,.inr ⟨by omega,by rw [hce],rfl⟩⟩
 refine Wp 4 [1,0] hs rfl<|Zg hs rfl (Yc rfl (fun h24=>?_) fun h24=>?_)
 ·
  refine Wp 14 [2,1,31,0] hs rfl<|T_ret ?_
  refine Rt_fin (vs:=[_,_]) results39 rfl ⟨rfl,rfl,trivial⟩ ?_
  try dsimp only [tup]
  have hce:=ce_big (f:=f) oM
  exact ⟨_,[],hs.done,.inr ⟨by omega,by rw [hce],rfl⟩⟩
 refine Wp 5 [3,0] hs rfl<|Zg hs rfl (Yc rfl (fun h30=>?_) fun h30=>?_)
 ·
  refine Wp 8 [2,1,31,0] hs rfl<|T_ret ?_
  refine Rt_fin (vs:=[_,_]) results39 rfl ⟨rfl,rfl,trivial⟩ ?_
  try dsimp only [tup]
  have hce:=ce_big (f:=f) oM
  exact ⟨_,[],hs.done,.inr ⟨by omega,by rw [hce],rfl⟩⟩
 refine Wp 4 [2,1,31] hs rfl ?_
 have hb0:¬ (16<f.progs.length∨24<f.nodes.length∨100<f.routes.length):=by omega
 refine Wu 6 [0,0] hs rfl<|Zy hs (Yc rfl (fun h35=>?_) fun h35=>?_)
 ·
  refine Wp 13 [0,0] hs rfl<|T_ret ?_
  refine Rt_fin (vs:=[_,_]) results39 rfl ⟨rfl,rfl,trivial⟩ ?_
  try dsimp only [tup]
  have hce:=ce_none hb0 oM
  exact ⟨_,[],hs.done,.inr ⟨by omega,by rw [hce],rfl⟩⟩
 refine Wp 4 [1,0] hs rfl<|Zg hs rfl (Yc rfl (fun h40=>?_) fun h40=>?_)
 ·
  refine Wp 8 [0,0] hs rfl<|T_ret ?_
  refine Rt_fin (vs:=[_,_]) results39 rfl ⟨rfl,rfl,trivial⟩ ?_
  try dsimp only [tup]
  have hce:=ce_none hb0 oM
  exact ⟨_,[],hs.done,.inr ⟨by omega,by rw [hce],rfl⟩⟩
 refine Wp 4 [0] hs rfl ?_
 have hb1:¬ (f.progs.length=0∨f.nodes.length=0):=by omega
 refine Wu 8 [0,0,0] hs rfl<|Zl [1,43,44,45] (fun m E w=>∃ (k:Nat) (G2:Ghost),k≤f.progs.length∧(f.progs.take k).all (fun p=>decide (¬ p=noP))=true∧m=f.progs.length-k∧E=⟨[],[(1,Vp b1),(43,.slice Ap f.progs.length cp),(44,Vi ((f.progs.length:Nat):Int)),(45,Vi (k:Int))]⟩∧St ⟨w0,G,feet []⟩ G2 [.blk b1 38 [.slice Ap f.progs.length cp,.slice An f.nodes.length cn,.slice Ae f.edges.length ce,.slice Ar f.routes.length cr]] w) rfl (⟨0,_,by omega,by simp,rfl,rfl,hs⟩) fun m E w hI=>?_
 obtain ⟨k,G2,hk,hpa,rfl,rfl,hs⟩:=hI
 have hf:=hf0.mono hs.le
 have hT:=hT0.mono hs.le
 refine Wt 2 [] hs rfl<|Zy hs (Yc rfl (fun h46=>?_) fun h46=>?_)
 ·
  refine Wp 8 [0] hs rfl<|Zy hs (Y_idxS hf.p k underlying33 sizeOf70 rfl rfl rfl oM fun p47 c47 hp47 hc47 hR47=>?_)
  obtain ⟨u47,v47,rfl,⟨hS47,_⟩,⟨hB47,_⟩⟩:=id hR47
  obtain ⟨As,cs,rfl⟩:=LstR.slice hS47
  obtain ⟨Ab,cb,rfl⟩:=LstR.slice hB47
  refine Zy hs (Y_ldAG (vs:=[.slice As f.progs[k].stmts.length cs,.slice Ab f.progs[k].blocks.length cb]) isAgg70 sizeOf70 rfl hp47 rfl<|O_s (Sa hs zeroValue70 rfl fun b5 _ hs=>O_n (Sg hs rfl (rfl) fun _ hs=>Wp 4 [0,0] hs rfl<|O_s (Sc (rchk_any hR47 (hP _ (List.getElem_mem _)) hT) hs rfl fun v1 G' H' _ hR hG51 hs=>?_))))
  obtain ⟨rfl,ua,ub,uc,rfl,hu51⟩:=hR
  replace hs:=hs.n rfl
  refine Wp 3 [] hs rfl<|O_s (Sa hs zeroValue81 rfl fun b6 _ hs=>O_n (Sg hs rfl (hu51) fun _ hs=>Wp 5 [0] hs rfl<|Zy hs (Yc rfl (fun h55=>?_) fun h55=>?_)))
  ·
   refine Wp 8 [0,0] hs rfl<|T_ret ?_
   refine Rt_fin (vs:=[_,_]) results39 rfl ⟨rfl,rfl,trivial⟩ ?_
   try dsimp only [tup]
   have hne:f.progs[k]=noP:=Classical.not_not.1 fun h=>h55 (if_neg h)
   have hce:=ce_prog hb0 hb1 (all_F (k:=k) oM (by simp [hne]))
   exact ⟨_,[],hs.done,.inr ⟨by omega,by rw [hce,show progE f.progs[k]=1 from if_pos hne]<;>rfl,rfl⟩⟩
  refine Wp 4 [0] hs rfl<|Zy hs (Ya (s:=((k+1:Nat):Int)) rfl<|Wp 1 [] hs rfl ?_)
  have hs:=hs.f2
  refine Zx [1,43,44,45] rfl ⟨k+1,_,by omega,all_T oM hpa (decide_eq_true fun h=>by rw [show progE f.progs[k]=1 from if_pos h] at h55;exact h55 dC),rfl,rfl,hs.weak hs.le (Ghost.le.refl _) (List.sublist_append_left [_] _)⟩
 refine Wp 4 [0] hs rfl ?_
 obtain rfl:k=f.progs.length:=by omega
 rw [List.take_length] at hpa
 obtain ⟨_,hGbhQ1,hQ1,hs⟩:=hs.fixBlk (fun k _=>noMb k)
 replace hf:=hf.mono hGbhQ1
 replace hT:=hT.mono hGbhQ1
 replace hQ1:BlkAt _ b1 _:=hQ1
 refine Wu 4 [1] hs rfl<|Zy hs (Yg rfl (hQ1 1 _ rfl)<|Wp 3 [0] hs rfl<|Zl [1,59,60,61] (fun m E w=>∃ (k:Nat) (G2:Ghost),k≤f.nodes.length∧(f.nodes.take k).all (nodeB f.progs.length)=true∧BlkAt G2 b1 [.slice Ap f.progs.length cp,.slice An f.nodes.length cn,.slice Ae f.edges.length ce,.slice Ar f.routes.length cr]∧m=f.nodes.length-k∧E=⟨[],[(1,Vp b1),(59,.slice An f.nodes.length cn),(60,Vi ((f.nodes.length:Nat):Int)),(61,Vi (k:Int))]⟩∧St ⟨w0,G,feet []⟩ G2 [] w) rfl (⟨0,_,by omega,by simp,hQ1,rfl,rfl,hs⟩) fun m E w hI=>?_)
 obtain ⟨k,G2,hk,hna,hQ1,rfl,rfl,hs⟩:=hI
 have hf:=hf0.mono hs.le
 have hT:=hT0.mono hs.le
 refine Wt 2 [] hs rfl<|Zy hs (Yc rfl (fun h62=>?_) fun h62=>?_)
 ·
  refine Wp 8 [0] hs rfl<|Zy hs (Y_idxS hf.n k underlying34 sizeOf61 rfl rfl rfl oM fun p63 c63 hp63 hc63 hR63=>?_)
  obtain ⟨u63,rfl,hv63⟩:=hR63
  obtain ⟨Av,cv,rfl,_⟩:=id hv63
  refine Zy hs (Y_ldAG (vs:=[.slice Av f.nodes[k].vers.length cv,Vi f.nodes[k].runs,Vi f.nodes[k].claims,.bool f.nodes[k].up]) isAgg61 sizeOf61 rfl hp63 rfl<|O_s (Sa hs zeroValue61 rfl fun b9 _ hs=>O_n (Sg hs rfl (rfl) fun _ hs=>Wp 12 [0,0,0,0,0,0] hs rfl<|Zy hs (Y_makeFunc (vs:=[_]) rfl<|O_s (Sc (conf_ok hQ1 hv63 (hz.v _ (List.getElem_mem _)) (f:=f)) hs rfl fun v2 G' H' _ hR hG71 hs=>?_)))))
  obtain ⟨rfl,rfl⟩:=hR
  replace hs:=hs.n rfl
  replace hQ1:=hQ1.mono hG71
  cases h71:outsB f.nodes[k].vers (f.progs.length:Int)
  ·
   refine Wp 5 [0] hs rfl<|Zy hs (Yc rfl (fun h73=>?_) fun h73=>?_)
   ·
    refine Wp 28 [5,1,59,60,61,94,0] hs rfl<|T_ret ?_
    refine Rt_fin (vs:=[_,_]) results39 rfl ⟨rfl,rfl,trivial⟩ ?_
    try dsimp only [tup]
    have hce:=ce_node hb0 hb1 hpa (all_F (k:=k) oM (node_no (.inl oM)))
    exact ⟨_,[],hs.done,.inr ⟨by omega,by rw [hce],rfl⟩⟩
   refine Wp 2 [] hs rfl<|Zg hs rfl (Yc rfl (fun h76=>?_) fun h76=>?_)
   ·
    refine Wp 25 [5,1,59,60,61,94,0] hs rfl<|T_ret ?_
    refine Rt_fin (vs:=[_,_]) results39 rfl ⟨rfl,rfl,trivial⟩ ?_
    try dsimp only [tup]
    have hce:=ce_node hb0 hb1 hpa (all_F (k:=k) oM (node_no (.inr (.inl oM))))
    exact ⟨_,[],hs.done,.inr ⟨by omega,by rw [hce],rfl⟩⟩
   refine Wp 8 [1,0] hs rfl<|O_yes 81 rfl rfl (Sc (fin_ok) hs rfl fun v3 G' H' _ hR hG85 hs=>?_)
   obtain ⟨rfl,rfl⟩:=hR
   replace hs:=hs.n rfl
   replace hQ1:=hQ1.mono hG85
   cases h85:inB f.nodes[k].runs (f.nodes[k].vers.length:Int)
   ·
    refine Wp 16 [5,1,59,60,61,94,0] hs rfl<|T_ret ?_
    refine Rt_fin (vs:=[_,_]) results39 rfl ⟨rfl,rfl,trivial⟩ ?_
    try dsimp only [tup]
    have hce:=ce_node hb0 hb1 hpa (all_F (k:=k) oM (node_no (.inr (.inr (.inr (.inl h85))))))
    exact ⟨_,[],hs.done,.inr ⟨by omega,by rw [hce],rfl⟩⟩
   refine Wp 6 [2,0] hs rfl<|O_yes 88 rfl rfl (Sc (fin_ok) hs rfl fun v4 G' H' _ hR hG92 hs=>?_)
   obtain ⟨rfl,rfl⟩:=hR
   replace hs:=hs.n rfl
   replace hQ1:=hQ1.mono hG92
   cases h92:inB f.nodes[k].claims (f.nodes[k].vers.length:Int)
   ·
    refine Wp 9 [5,1,59,60,61,94,0] hs rfl<|T_ret ?_
    refine Rt_fin (vs:=[_,_]) results39 rfl ⟨rfl,rfl,trivial⟩ ?_
    try dsimp only [tup]
    have hce:=ce_node hb0 hb1 hpa (all_F (k:=k) oM (node_no (.inr (.inr (.inr (.inr h92))))))
    exact ⟨_,[],hs.done,.inr ⟨by omega,by rw [hce],rfl⟩⟩
   refine Wp 6 [5,1,59,60,61,94] hs rfl<|Zy hs (Ya (s:=((k+1:Nat):Int)) rfl<|Wp 1 [] hs rfl<|Zx [1,59,60,61] rfl ⟨k+1,_,by omega,all_T oM hna (node_yes oM oM h71 h85 h92),hQ1,rfl,rfl,hs.done⟩)
  refine Wp 5 [0] hs rfl<|Zy hs (Yc rfl (fun h73=>?_) fun h73=>?_)
  ·
   refine Wp 28 [5,1,59,60,61,94,0] hs rfl<|T_ret ?_
   refine Rt_fin (vs:=[_,_]) results39 rfl ⟨rfl,rfl,trivial⟩ ?_
   try dsimp only [tup]
   have hce:=ce_node hb0 hb1 hpa (all_F (k:=k) oM (node_no (.inl oM)))
   exact ⟨_,[],hs.done,.inr ⟨by omega,by rw [hce],rfl⟩⟩
  refine Wp 2 [] hs rfl<|Zg hs rfl (Yc rfl (fun h76=>?_) fun h76=>?_)
  ·
   refine Wp 25 [5,1,59,60,61,94,0] hs rfl<|T_ret ?_
   refine Rt_fin (vs:=[_,_]) results39 rfl ⟨rfl,rfl,trivial⟩ ?_
   try dsimp only [tup]
   have hce:=ce_node hb0 hb1 hpa (all_F (k:=k) oM (node_no (.inr (.inl oM))))
   exact ⟨_,[],hs.done,.inr ⟨by omega,by rw [hce],rfl⟩⟩
  refine Wp 25 [5,1,59,60,61,94,0] hs rfl<|T_ret ?_
  refine Rt_fin (vs:=[_,_]) results39 rfl ⟨rfl,rfl,trivial⟩ ?_
  try dsimp only [tup]
  have hce:=ce_node hb0 hb1 hpa (all_F (k:=k) oM (node_no (.inr (.inr (.inl h71)))))
  exact ⟨_,[],hs.done,.inr ⟨by omega,by rw [hce],rfl⟩⟩
 refine Wp 4 [0] hs rfl ?_
 obtain rfl:k=f.nodes.length:=by omega
 rw [List.take_length] at hna
 refine Wu 2 [] hs rfl<|Zy hs (Y_ldAG (vs:=[.slice Ap f.progs.length cp,.slice An f.nodes.length cn,.slice Ae f.edges.length ce,.slice Ar f.routes.length cr]) isAgg38 sizeOf38 rfl hQ1.whole rfl ?_)
 cases he98:edgesB f.nodes.length f.edges
 ·
  refine O_s (Sc (fnum_F hf hz he98) hs rfl fun v5 G' H' _ hR hG98 hs=>?_)
  obtain ⟨rfl,rfl⟩:=hR
  replace hs:=hs.n rfl
  refine Wp 18 [0,0,0] hs rfl<|T_ret ?_
  refine Rt_fin (vs:=[_,_]) results39 rfl ⟨rfl,rfl,trivial⟩ ?_
  try dsimp only [tup]
  have hce:=ce_edge hb0 hb1 hpa hna he98
  exact ⟨_,[],hs.done,.inr ⟨by omega,by rw [hce],rfl⟩⟩
 refine O_s (Sc (fnum_T hf hz he98) hs rfl fun v6 G' H' _ hR hG98 hs=>?_)
 obtain ⟨b98,rfl,rfl⟩:=hR
 replace hs:=hs.n rfl
 replace hf:=hf.mono hG98
 replace hQ1:=hQ1.mono hG98
 refine Wp 18 [0,0,3] hs rfl<|Zy hs (Yg rfl (hQ1 3 _ rfl)<|Wp 3 [0] hs rfl<|Zl [12,104,105,106] (fun m E w=>∃ (k:Nat) (G2:Ghost),k≤f.routes.length∧(f.routes.take k).all (routeB f.edges)=true∧m=f.routes.length-k∧E=⟨[],[(12,.map (some b98)),(104,.slice Ar f.routes.length cr),(105,Vi ((f.routes.length:Nat):Int)),(106,Vi (k:Int))]⟩∧St ⟨w0,G,feet []⟩ G2 [.obj b98 (.map (esOf eK f.edges).toArray f.edges.length)] w) rfl (⟨0,_,by omega,by simp,rfl,rfl,hs⟩) fun m E w hI=>?_)
 obtain ⟨k,G2,hk,hra,rfl,rfl,hs⟩:=hI
 have hf:=hf0.mono hs.le
 refine Wt 2 [] hs rfl<|Zy hs (Yc rfl (fun h107=>?_) fun h107=>?_)
 ·
  refine Wp 8 [0] hs rfl<|Zy hs (Y_idxS hf.r k underlying36 sizeOf45 rfl rfl rfl oM fun p108 c108 hp108 hc108 hR108=>?_)
  obtain ⟨u108,rfl,hv108⟩:=hR108
  obtain ⟨Ar8,cr8,rfl,_⟩:=id hv108
  refine Zy hs (Yg rfl (hp108 0 (.slice Ar8 f.routes[k].length cr8) rfl)<|Wp 6 [0] hs rfl<|O_s (Sc (frte_ok (edgesB_nodup he98) hv108 (hz.r _ (List.getElem_mem _))) hs rfl fun v7 G' H' _ hR hG112 hs=>?_))
  obtain ⟨rfl,rfl⟩:=hR
  replace hs:=hs.n rfl
  cases h112:routeB f.edges f.routes[k]
  ·
   refine Wp 8 [0,0] hs rfl<|T_ret ?_
   refine Rt_fin (vs:=[_,_]) results39 rfl ⟨rfl,rfl,trivial⟩ ?_
   try dsimp only [tup]
   have hce:=ce_route hb0 hb1 hpa hna he98 (all_F (k:=k) oM h112)
   exact ⟨_,[],hs.done,.inr ⟨by omega,by rw [hce],rfl⟩⟩
  refine Wp 5 [0] hs rfl<|Zy hs (Ya (s:=((k+1:Nat):Int)) rfl<|Wp 1 [] hs rfl<|Zx [12,104,105,106] rfl ⟨k+1,_,by omega,all_T oM hra h112,rfl,rfl,hs⟩)
 refine Wp 4 [0] hs rfl<|Wu 6 [0] hs rfl<|T_ret ?_
 refine Rt_fin (vs:=[_,_]) results39 rfl ⟨rfl,rfl,trivial⟩ ?_
 try dsimp only [tup]
 obtain rfl:k=f.routes.length:=by omega
 rw [List.take_length] at hra
 exact ⟨_,_,hs.weak hs.le (Ghost.le.refl _) (List.sublist_append_left [_] _),.inl ⟨ce_ok hb0 hb1 hpa hna he98 hra,b98,rfl,rfl⟩⟩
theorem fchk_T {G:Ghost} {Ap An Ae Ar:Option Addr} {cp cn ce cr:Nat} {f:FltM} (hf:FltC G Ap An Ae Ar cp cn ce cr f) (hz:FSz f) (hP:∀ p∈f.progs,OkP p) (hT:Tab G) (h:checkE f=0):FnOk prog 39 [(.agg (fltL Ap An Ae Ar cp cn ce cr f).toArray)] G [] fun r _ H'=>∃ b,r=.tuple #[.map (some b),Vi 0]∧H'=[.obj b (.map (esOf eK f.edges).toArray f.edges.length)]:=by
  refine (fchk_ok hf hz hP hT).mono fun r G' H' _ h2=>?_
  rcases h2 with ⟨_,h2⟩ | ⟨h3,_⟩
  · exact h2
  · exact absurd h h3
theorem fchk_F {G:Ghost} {Ap An Ae Ar:Option Addr} {cp cn ce cr:Nat} {f:FltM} (hf:FltC G Ap An Ae Ar cp cn ce cr f) (hz:FSz f) (hP:∀ p∈f.progs,OkP p) (hT:Tab G) (h:¬ checkE f=0):FnOk prog 39 [(.agg (fltL Ap An Ae Ar cp cn ce cr f).toArray)] G [] fun r _ H'=>H'=[]∧r=.tuple #[.map none,Vi (checkE f)]:=by
  refine (fchk_ok hf hz hP hT).mono fun r G' H' _ h2=>?_
  rcases h2 with ⟨h3,_⟩ | ⟨_,h4,h5⟩
  · exact absurd h3 h
  · exact ⟨h5,h4⟩
theorem ce_inv {f:FltM} (h:checkE f=0):¬ (16<f.progs.length∨24<f.nodes.length∨100<f.routes.length)∧¬ (f.progs.length=0∨f.nodes.length=0)∧f.nodes.all (nodeB f.progs.length)=true∧edgesB f.nodes.length f.edges=true∧f.routes.all (routeB f.edges)=true:=by
  unfold checkE at h
  split at h
  · cases h
  · rename_i h0
    split at h
    · cases h
    · rename_i h1
      split at h
      · cases h
      · split at h
        · cases h
        · rename_i h3
          split at h
          · cases h
          · rename_i h4
            split at h
            · cases h
            · rename_i h5
              exact ⟨h0,h1,by simpa using h3,by simpa using h4,by simpa using h5⟩
theorem node_inv {np:Int} {x:NodM} (h:nodeB np x=true):1≤x.vers.length∧x.vers.length≤8∧(∀ v∈x.vers,0≤v∧v<np)∧(0≤x.runs∧x.runs<x.vers.length)∧(0≤x.claims∧x.claims<x.vers.length):=by
  unfold nodeB at h
  simp only [Bool.and_eq_true,decide_eq_true_eq,List.all_eq_true] at h
  exact ⟨h.1.1,h.1.2,fun v hv=>inB_iff.1 (h.2.1 v hv),inB_iff.1 h.2.2.1,inB_iff.1 h.2.2.2⟩
def ltI (a b:Int):Bool:=decide (a<b)
theorem ordI:Ordr ltI:=⟨fun a b h=>by simp only [ltI,decide_eq_true_eq,decide_eq_false_iff_not] at *;omega,fun a b c h1 h2=>by simp only [ltI,decide_eq_false_iff_not] at *;omega⟩
section
variable {α:Type}
theorem sw_row {f:α→Value} {p p' t:List α} {x y:α} (h:p=p'++[y]):((((p++x::t).map f).set p.length (f y)).set (p.length-1) (f x))=(p'++x::y::t).map f:=by
  subst h
  have h1:=swap_set (p:=p') (t:=t) (x:=x) (y:=y)
  rw [← h1,List.map_set,List.map_set]
  simp
theorem at_mid {f:α→Value} {p t:List α} {x:α}:((p++x::t).map f)[p.length]?=some (f x):=by simp
theorem at_pre {f:α→Value} {p p' t:List α} {x y:α} (h:p=p'++[y]):((p++x::t).map f)[p.length-1]?=some (f y):=by subst h;simp
theorem last_of {p:List α} (h:0<p.length):∃ p' y,p=p'++[y]:=by
  rcases List.eq_nil_or_concat p with rfl | ⟨p',y,rfl⟩
  · cases h
  · exact ⟨p',y,List.concat_eq_append⟩
theorem head_of {s r:List α} {i n:Nat} (h1:(s++r).length=n) (h2:i<n) (h3:s.length=i∨r=[]) (h4:s.length≤i):∃ x r',r=x::r'∧s.length=i:=by
  cases r with
  | nil=>rw [List.append_nil] at h1;omega
  | cons x r' =>
    rcases h3 with h3 | h3
    · exact ⟨x,r',rfl,h3⟩
    · cases h3
end
theorem srt_one {α:Type} {lt:α→α→Bool} (l:List α):Srt lt (l.take 1):=by
  cases l with
  | nil=>exact List.Pairwise.nil
  | cons a l=>exact List.pairwise_singleton _ _
theorem isni_ok {G:Ghost} {s:Int} :
  FnOk prog 127 [Vi s] G [] fun r _ H'=>H'=[]∧r=Vf:=by
 refine FnOk.of_T [(0,_)] func127 rfl ntmps127 sM rfl fun w0 hs =>Wt 8 [0] hs rfl<|Zy hs (Y_cmpF rfl rfl rfl oM<|Wp 2 [0] hs rfl<|T_ret<|Zz results127 rfl ?_)
 exact ⟨_,[],hs.done,rfl,rfl⟩
theorem lessi_ok {G:Ghost} {s t:Int} :
  FnOk prog 114 [Vi s,Vi t] G [] fun r _ H'=>H'=[]∧r=.bool (ltI s t):=by
 refine FnOk.of_T [(0,_),(1,_)] func114 rfl ntmps114 sM rfl fun w0 hs =>Wt 7 [0] hs rfl<|O_s (Sc (isni_ok) hs rfl fun v1 G' H' _ hR hG6 hs=>?_)
 obtain ⟨rfl,rfl⟩:=hR
 replace hs:=hs.n rfl
 refine Wp 8 [] hs rfl<|Zg hs rfl (Yc rfl (fun h15=>?_) fun h15=>?_)
 ·
  refine Wp 3 [0] hs rfl<|T_ret<|Zz results114 rfl ?_
  exact ⟨_,[],hs.done,rfl,congrArg Value.bool (by unfold ltI;rw [eq_comm];exact decide_eq_true oM)⟩
 refine Wp 3 [0] hs rfl<|T_ret<|Zz results114 rfl ?_
 exact ⟨_,[],hs.done,rfl,congrArg Value.bool (by unfold ltI;rw [eq_comm];exact decide_eq_false oM)⟩
theorem insi_ok {G:Ghost} {bq cq n:Nat} {l:List Int} (hl:l.length=n) (hn:n≤12) :
  FnOk prog 108 [Vs bq n cq,Vi 0,Vi (n:Int)] G [.row 3 1 (Vs bq n cq) n (l.map (.int .i64))] fun r _ H'=>∃ l',l'.Perm l∧Srt ltI l'∧H'=[.row 3 1 (Vs bq n cq) n (l'.map (.int .i64))]:=by
 refine FnOk.of_T [(0,_),(1,_),(2,_)] func108 rfl ntmps108 sM rfl fun w0 hs =>Wt 3 [] hs rfl<|Zy hs (Y_add rfl rfl rfl oM<|Wp 2 [0] hs rfl<|Zl [0,1,2,6] (fun m E w=>∃ (i:Nat) (s r:List Int) (G2:Ghost),1≤i∧i≤13∧s.length≤i∧(s.length=i∨r=[])∧Srt ltI s∧(s++r).Perm l∧m=n-i∧E=⟨[],[(0,(Vs bq n cq)),(1,Vi 0),(2,Vi (n:Int)),(6,Vi (i:Int))]⟩∧St ⟨w0,G,feet [.row 3 1 (Vs bq n cq) n (l.map (.int .i64))]⟩ G2 [.row 3 1 (Vs bq n cq) n ((s++r).map (.int .i64))] w) rfl (⟨1,l.take 1,l.drop 1,_,by omega,by omega,by rw [List.length_take];omega,by rw [List.length_take];rcases Nat.eq_zero_or_pos l.length with h0 | h0;exact .inr (List.drop_eq_nil_of_le oM);exact .inl oM,srt_one _,by rw [List.take_append_drop],rfl,rfl,by rw [List.take_append_drop];exact hs⟩) fun m E w hI=>?_)
 obtain ⟨i,s,r,G2,hi1,hi2,hsi,hsr,hss,hpm,rfl,rfl,hs⟩:=hI
 have hpl:=hpm.length_eq
 refine Wt 5 [] hs rfl<|Zy hs (Yc rfl (fun h12=>?_) fun h12=>?_)
 ·
  refine Wp 10 [0,0] hs rfl ?_
  obtain ⟨x,r',rfl,hsl⟩:=head_of (n:=n) (i:=i) oM oM hsr hsi
  refine Zl [0,1,2,6,7] (fun m E w=>∃ (p q:List Int) (G2:Ghost),p.length+q.length=i∧Srt ltI (p++q)∧(∀ b∈q,ltI b x=false)∧(p++x::(q++r')).Perm l∧m=p.length∧E=⟨[],[(0,(Vs bq n cq)),(1,Vi 0),(2,Vi (n:Int)),(6,Vi (i:Int)),(7,Vi (p.length:Int))]⟩∧St ⟨w0,G,feet [.row 3 1 (Vs bq n cq) n (l.map (.int .i64))]⟩ G2 [.row 3 1 (Vs bq n cq) n ((p++x::(q++r')).map (.int .i64))] w) rfl (⟨s,[],_,by simp;omega,by simpa using hss,by simp,by simpa using hpm,hsl.symm,by rw [hsl],by simpa using hs⟩) fun m E w hI=>?_
  obtain ⟨p,q,G2,hpi,hpq,hqx,hpx,rfl,rfl,hs⟩:=hI
  have hpl2:=hpx.length_eq
  refine Wt 2 [] hs rfl<|T_drawS [0,1,2,3,4,5,6,7,8,9,10,11,12,13,14] hs kR ?_
  replace hs:=hs.drew
  refine Xr [0,1] [] hs rfl<|Xt 2 hs rfl (Y_cmpS rfl rfl rfl (fun h18=>?_) (fun h18=>?_))
  ·
   dsimp only [cmpP] at h18
   refine Xr [3,4,5] [] hs rfl ?_
   obtain ⟨p',y,hpe⟩:=last_of (p:=p) oM
   refine Xt 6 hs rfl (Y_idxRow (p.length) underlying45 sizeOf3 rfl rfl rfl Z46<|Xt 7 hs rfl (Y_ldRow 0 rfl isAgg3 rfl (at_mid)<|Xr [8,9] [] hs rfl<|Xt 10 hs rfl (Y_sub (c:=((p.length-1:Nat):Int)) rfl rfl oM oM<|Xt 11 hs rfl (Y_idxRow (p.length-1) underlying45 sizeOf3 rfl rfl rfl Z46<|Xt 12 hs rfl (Y_ldRow 0 rfl isAgg3 rfl (at_pre hpe) ?_)))))
   have hle:=hs.le
   refine Xo 13 rfl (Sc (lessi_ok) hs rfl fun v1 G' H' _ hR hG29 hs=>?_)
   obtain ⟨rfl,rfl⟩:=hR
   replace hs:=hs.n rfl
   cases h29:ltI x y
   ·
    refine A_moreS hs hle hG29 (List.Sublist.refl _)<|Xr [14] [] hs rfl<|Xe (Zk [0,1,2,6,7,30] rfl<|Wu 2 [] hs rfl<|Wu 2 [] hs rfl<|Zy hs (Ya (s:=((i+1:Nat):Int)) rfl<|Wp 1 [] hs rfl ?_))
    have hst:Srt ltI (p++x::q):=Srt.stop ordI hpq hqx (.inr ⟨p',y,hpe,h29⟩)
    refine Zx [0,1,2,6] rfl ⟨i+1,p++x::q,r',_,by omega,by omega,by simp;omega,.inl Z50,hst,by simpa using hpx,rfl,rfl,castH hs sM⟩
   refine A_moreS hs hle hG29 (List.Sublist.refl _)<|Xr [14] [] hs rfl<|Xe (Zk [0,1,2,6,7,30] rfl<|Wu 4 [] hs rfl<|T_drawS [0,1,5,6,7,8,9,10,11,12,13,14] hs kR ?_)
   replace hs:=hs.drew
   refine A_pure 2 rfl kR rfl (Y_move rfl<|A_pure 3 rfl kR rfl (Y_move rfl<|A_pure 4 rfl kR rfl (Y_sub (c:=((p.length - 1:Nat):Int)) rfl rfl oM oM<|Xr [0,1,5,6] [] hs rfl<|Xt 7 hs rfl (Y_sub (c:=((p.length - 1:Nat):Int)) rfl rfl oM oM<|Xt 8 hs rfl (Y_idxRow (p.length - 1) underlying45 sizeOf3 rfl rfl rfl Z46<|Xt 9 hs rfl (Y_ldRow 0 rfl isAgg3 rfl (at_pre hpe)<|Xr [10,11] [] hs rfl<|Xt 12 hs rfl (Y_idxRow (p.length) underlying45 sizeOf3 rfl rfl rfl Z46<|Xt 13 hs rfl (Y_ldRow 0 rfl isAgg3 rfl (at_mid)<|Xt 14 hs rfl (Y_idxRow (p.length) underlying45 sizeOf3 rfl rfl rfl Z46<|Xn 15 rfl (S_stRow hs sizeOf3 rfl rfl rfl oM fun _ hs =>Xa 16 rfl (S_y hs rfl (Y_idxRow (p.length - 1) underlying45 sizeOf3 rfl rfl rfl Z46<|Xn 17 rfl (S_stRow hs sizeOf3 rfl rfl rfl oM fun _ hs =>Xe (Zk [0,1,2,6,7] rfl<|Wu 2 [] hs rfl<|Zy hs (Y_sub (c:=((p.length - 1:Nat):Int)) rfl rfl oM oM<|Wp 1 [] hs rfl ?_)))))))))))))))
   obtain ⟨hpq2,hqx2⟩:=Srt.swap (p:=p') (q:=q) ordI (by rw [← hpe];exact hpq) hqx h29
   have hpl3:p.length=p'.length+1:=by rw [hpe];simp
   refine Zx [0,1,2,6,7] rfl ⟨p',y::q,_,by simp;omega,hpq2,hqx2,by rw [hpe] at hpx;refine List.Perm.trans ?_ hpx;rw [List.append_assoc];exact List.Perm.append_left _ (List.Perm.swap _ _ _),rfl,by rw [hpl3];simp,castH hs (by rw [sw_row hpe];simp)⟩
  dsimp only [cmpP] at h18
  refine Xr [3,4,5,6,7,8,9,10,11,12,13,14] [] hs rfl<|Xe (Zk [0,1,2,6,7,30] rfl<|Wu 2 [] hs rfl<|Wu 2 [] hs rfl<|Zy hs (Ya (s:=((i+1:Nat):Int)) rfl<|Wp 1 [] hs rfl ?_))
  have hst:Srt ltI (p++x::q):=Srt.stop ordI hpq hqx (.inl (List.eq_nil_of_length_eq_zero oM))
  refine Zx [0,1,2,6] rfl ⟨i+1,p++x::q,r',_,by omega,by omega,by simp;omega,.inl Z50,hst,by simpa using hpx,rfl,rfl,castH hs sM⟩
 refine Wp 3 [0] hs rfl ?_
 try dsimp only [Ex.At,Ex.sqs,Ex.sq,Ex.lp,Ex.bk]
 try rw [show Nat.beq _ _=true from Nat.beq_refl _,cond_true]
 refine Rt_finN (vs:=[]) results108 rfl trivial ?_
 try dsimp only [tup]
 have hre:r=[]:=by rcases hsr with h | h;exact List.eq_nil_of_length_eq_zero (by rw [List.length_append] at hpl;omega);exact h
 subst hre
 rw [List.append_nil] at hpm hs
 exact ⟨_,_,hs,s,hpm,hss,rfl⟩
theorem pdqi_ok {G:Ghost} {bq cq n:Nat} {z:Int} {l:List Int} (hl:l.length=n) (hn:n≤12) :
  FnOk prog 79 [Vs bq n cq,Vi 0,Vi (n:Int),Vi z] G [.row 3 1 (Vs bq n cq) n (l.map (.int .i64))] fun r _ H'=>∃ l',l'.Perm l∧Srt ltI l'∧H'=[.row 3 1 (Vs bq n cq) n (l'.map (.int .i64))]:=by
 refine FnOk.of_T [(0,_),(1,_),(2,_),(3,_)] func79 rfl ntmps79 sM rfl fun w0 hs =>Wt 8 [0,0] hs rfl<|T_block (T_loopN 1 (L:=[(0,_),(1,_),(2,_),(3,_),(8,_),(9,_)]) ⟨rfl,rfl,rfl,rfl,rfl,rfl,trivial⟩ (U_go<|Wt 5 [] hs rfl<|Zy hs (Y_sub (c:=(n:Int)) rfl rfl oM oM<|Wp 6 [0] hs rfl<|Zy hs (Y_cmpT rfl rfl rfl oM<|Wp 7 [0] hs rfl<|O_s (Sc (insi_ok hl hn) hs rfl fun v1 G' H' _ hR hG27 hs=>?_)))))
 obtain ⟨l',hpl,hsl,rfl⟩:=hR
 replace hs:=hs.n rfl
 refine Wp 1 [0] hs rfl<|T_ret ?_
 refine Rt_fin (vs:=[]) results79 rfl trivial ?_
 try dsimp only [tup]
 exact ⟨_,_,hs,l',hpl,hsl,rfl⟩
theorem srti_ok {G:Ghost} {bq cq n:Nat} {l:List Int} (hl:l.length=n) (hn:n≤12) :
  FnOk prog 44 [Vs bq n cq] G [.row 3 1 (Vs bq n cq) n (l.map (.int .i64))] fun r _ H'=>∃ l',l'.Perm l∧Srt ltI l'∧H'=[.row 3 1 (Vs bq n cq) n (l'.map (.int .i64))]:=by
 refine FnOk.of_T [(0,_)] func44 rfl ntmps44 sM rfl fun w0 hs =>Wt 10 [0] hs rfl<|Zy hs (Y_conv underlying3 underlying144 (c:=(n:Int)) rfl (by rw [IntKind.wrap_u64];omega)<|O_s (Sc (lenn_ok (a:=n) oM) hs rfl fun v1 G' H' _ hR hG9 hs=>?_))
 obtain ⟨rfl,z,rfl⟩:=hR
 replace hs:=hs.n rfl
 refine O_s (Sc (pdqi_ok hl hn) hs rfl fun v2 G' H' _ hR hG10 hs=>?_)
 obtain ⟨l',hpl,hsl,rfl⟩:=hR
 replace hs:=hs.n rfl
 refine O_nil (Rt_finN (vs:=[]) results44 rfl trivial ?_)
 try dsimp only [tup]
 exact ⟨_,_,hs,l',hpl,hsl,rfl⟩
theorem insn_ok {G:Ghost} :
  FnOk prog 108 [Vn,Vi 0,Vi 0] G [.row 3 1 (Vn) 0 []] fun r _ H'=>H'=[.row 3 1 (Vn) 0 []]:=by
 refine FnOk.of_T [(0,_),(1,_),(2,_)] func108 rfl ntmps108 sM rfl fun w0 hs =>Wt 3 [] hs rfl<|Zy hs (Y_add (c:=(1)) rfl rfl dC dC<|Wp 2 [0] hs rfl<|T_block (T_loopN 1 (L:=[(0,_),(1,_),(2,_),(6,_)]) ⟨rfl,rfl,rfl,rfl,trivial⟩ (U_go<|Wt 9 [0] hs rfl ?_)))
 try dsimp only [Ex.At,Ex.sqs,Ex.sq,Ex.lp,Ex.bk]
 try rw [show Nat.beq _ _=true from Nat.beq_refl _,cond_true]
 refine Rt_finN (vs:=[]) results108 rfl trivial ?_
 try dsimp only [tup]
 exact ⟨_,_,hs,rfl⟩
theorem pdqn_ok {G:Ghost} {z:Int} :
  FnOk prog 79 [Vn,Vi 0,Vi 0,Vi z] G [.row 3 1 (Vn) 0 []] fun r _ H'=>H'=[.row 3 1 (Vn) 0 []]:=by
 refine FnOk.of_T [(0,_),(1,_),(2,_),(3,_)] func79 rfl ntmps79 sM rfl fun w0 hs =>Wt 8 [0,0] hs rfl<|T_block (T_loopN 1 (L:=[(0,_),(1,_),(2,_),(3,_),(8,_),(9,_)]) ⟨rfl,rfl,rfl,rfl,rfl,rfl,trivial⟩ (U_go<|Wt 5 [] hs rfl<|Zy hs (Y_sub (c:=(0)) rfl rfl dC dC<|Wp 14 [0,0] hs rfl<|O_s (Sc (insn_ok) hs rfl fun v1 G' H' _ hR hG27 hs=>?_))))
 obtain rfl:=hR
 replace hs:=hs.n rfl
 refine Wp 1 [0] hs rfl<|T_ret ?_
 refine Rt_fin (vs:=[]) results79 rfl trivial ?_
 try dsimp only [tup]
 exact ⟨_,_,hs,rfl⟩
theorem srtn_ok {G:Ghost} :
  FnOk prog 44 [Vn] G [.row 3 1 (Vn) 0 []] fun r _ H'=>H'=[.row 3 1 (Vn) 0 []]:=by
 refine FnOk.of_T [(0,_)] func44 rfl ntmps44 sM rfl fun w0 hs =>Wt 10 [0] hs rfl<|Zy hs (Y_conv underlying3 underlying144 (c:=0) rfl dC<|O_s (Sc (lenn_ok (a:=0) oM) hs rfl fun v1 G' H' _ hR hG9 hs=>?_))
 obtain ⟨rfl,z,rfl⟩:=hR
 replace hs:=hs.n rfl
 refine O_s (Sc (pdqn_ok) hs rfl fun v2 G' H' _ hR hG10 hs=>?_)
 obtain rfl:=hR
 replace hs:=hs.n rfl
 refine O_nil (Rt_finN (vs:=[]) results44 rfl trivial ?_)
 try dsimp only [tup]
 exact ⟨_,_,hs,rfl⟩
section
variable {α:Type} [DecidableEq α]
theorem cpt_short {l:List α} (h:l.length<2):cptF l=l:=by
  match l,h with
  | [],_=>rfl
  | [a],_=>rfl
theorem cpt_take1 {l:List α}:cptF (l.take 1)=l.take 1:=cpt_short (by rw [List.length_take];omega)
theorem last_take' {l:List α} {i:Nat} (h1:1≤i) (h:i≤l.length):(l.take i).getLast?=some (l[i-1]'oM):=by
  rw [List.getLast?_eq_getElem?,List.length_take,Nat.min_eq_left h,List.getElem?_take_of_lt oM,List.getElem?_eq_getElem oM]
theorem cpt_step {l:List α} {i:Nat} (h1:1≤i) (h:i<l.length):cptF (l.take (i+1))=if l[i-1]'oM=l[i] then cptF (l.take i) else cptF (l.take i)++[l[i]]:=by
  rw [take_succ' h,cptF_snoc,cptF_last,last_take' h1 oM]
  simp only [Option.some.injEq]
theorem cpt_new {l:List α} {i:Nat} (h1:1≤i) (h:i<l.length) (hd:cptF (l.take i)=l.take i) (hn:¬ l[i]=l[i-1]'oM):cptF (l.take (i+1))=l.take (i+1):=by
  rw [cpt_step h1 h,if_neg (fun e=>hn e.symm),hd,take_succ' h]
theorem cpt_dup {l:List α} {i:Nat} (h1:1≤i) (h:i<l.length) (hd:cptF (l.take i)=l.take i) (hn:l[i]=l[i-1]'oM):cptF (l.take (i+1))=l.take i:=by
  rw [cpt_step h1 h,if_pos hn.symm,hd]
structure CmpI (l xs:List α) (i k:Nat):Prop where
  len:xs.length=l.length
  kk:k=(cptF (l.take i)).length
  pre:xs.take k=cptF (l.take i)
  same:∀ t,i-1≤t→xs[t]?=l[t]?
  lt:k<i
theorem CmpI.start {l:List α} {i:Nat} (h1:1≤i) (h:i<l.length) (hd:cptF (l.take i)=l.take i) (hn:l[i]=l[i-1]'oM):CmpI l l (i+1) i:=by
  have e:=cpt_dup h1 h hd hn
  exact ⟨rfl,by rw [e,List.length_take];omega,by rw [e],fun _ _=>rfl,by omega⟩
theorem CmpI.skip {l xs:List α} {i k:Nat} (c:CmpI l xs i k) (h1:1≤i) (h:i<l.length) (hn:l[i]=l[i-1]'oM):CmpI l xs (i+1) k:=by
  have e:cptF (l.take (i+1))=cptF (l.take i):=by rw [cpt_step h1 h,if_pos hn.symm]
  exact ⟨c.len,by rw [e];exact c.kk,by rw [e];exact c.pre,fun t ht=>c.same t oM,by have:=c.lt;omega⟩
theorem CmpI.put {l xs:List α} {i k:Nat} (c:CmpI l xs i k) (h1:1≤i) (h:i<l.length) (hn:¬ l[i]=l[i-1]'oM):CmpI l (xs.set k l[i]) (i+1) (k+1):=by
  have e:cptF (l.take (i+1))=cptF (l.take i)++[l[i]]:=by rw [cpt_step h1 h,if_neg (fun e=>hn e.symm)]
  have hlt:=c.lt
  have hlen:=c.len
  refine ⟨by rw [List.length_set];exact c.len,by rw [e,List.length_append,← c.kk];rfl,?_,fun t ht=>?_,by omega⟩
  · rw [e,← c.pre,take_succ' (by rw [List.length_set];omega),List.getElem_set_self,List.take_set_of_le (Nat.le_refl k)]
  · rw [List.getElem?_set,if_neg oM];exact c.same t oM
theorem CmpI.at_ {l xs:List α} {i k:Nat} {f:α→Value} (c:CmpI l xs i k) {t:Nat} (h:i-1≤t) (ht:t<l.length):(xs.map f)[t]?=some (f l[t]):=by
  rw [List.getElem?_map,c.same t h,List.getElem?_eq_getElem ht];rfl
theorem CmpI.fin {l xs:List α} {i k:Nat} (c:CmpI l xs i k) (h:i=l.length):xs.take k=cptF l∧k=(cptF l).length:=by
  have h1:=c.pre
  have h2:=c.kk
  rw [h,List.take_length] at h1 h2
  exact ⟨h1,h2⟩
end
theorem cmpi_ok {G:Ghost} {bq cq n:Nat} {l:List Int} (hl:l.length=n) (hn:n≤12) (hc:n≤cq) :
  FnOk prog 45 [Vs bq n cq] G [.row 3 1 (Vs bq n cq) n (l.map (.int .i64))] fun r _ H'=>∃ k,k=(cptF l).length∧r=Vs bq k cq∧H'=[.row 3 1 (Vs bq k cq) k ((cptF l).map (.int .i64))]:=by
 refine FnOk.of_T [(0,_)] func45 rfl ntmps45 sM rfl fun w0 hs =>Wt 9 [0] hs rfl<|Zy hs (Yc rfl (fun h8=>?_) fun h8=>?_)
 ·
  refine Wp 7 [0,0] hs rfl<|T_ret<|Zz results45 rfl ?_
  exact ⟨_,_,hs,n,by rw [cpt_short oM,hl],rfl,by rw [cpt_short oM]⟩
 refine Wp 8 [0,0] hs rfl<|Zl [0,3] (fun m E w=>∃ (i:Nat) (G2:Ghost),1≤i∧i≤n∧cptF (l.take i)=l.take i∧m=n-i∧E=⟨[],[(0,(Vs bq n cq)),(3,Vi (i:Int))]⟩∧St ⟨w0,G,feet [.row 3 1 (Vs bq n cq) n (l.map (.int .i64))]⟩ G2 [.row 3 1 (Vs bq n cq) n (l.map (.int .i64))] w) rfl (⟨1,_,by omega,by omega,cpt_take1,rfl,rfl,hs⟩) fun m E w hI=>?_
 obtain ⟨i,G2,hi1,hi2,hcp,rfl,rfl,hs⟩:=hI
 refine Wt 6 [] hs rfl<|Zy hs (Yc rfl (fun h13=>?_) fun h13=>?_)
 ·
  refine Wp 6 [0] hs rfl<|T_drawS [0,1,2,3,4,5,6,7,8,9] hs kR ?_
  replace hs:=hs.drew
  refine Xr [0,1] [] hs rfl<|Xt 2 hs rfl (Y_idxRow (i) underlying45 sizeOf3 rfl rfl rfl oM<|Xt 3 hs rfl (Y_ldRow 0 rfl isAgg3 rfl (by rw [List.getElem?_map,List.getElem?_eq_getElem oM];rfl) ?_))
  refine Xr [4,5] [] hs rfl<|Xt 6 hs rfl (Y_sub (c:=((i-1:Nat):Int)) rfl rfl oM oM<|Xt 7 hs rfl (Y_idxRow (i-1) underlying45 sizeOf3 rfl rfl rfl oM<|Xt 8 hs rfl (Y_ldRow 0 rfl isAgg3 rfl (by rw [List.getElem?_map,List.getElem?_eq_getElem oM];rfl) ?_)))
  refine Xt 9 hs rfl (Y_cmpS rfl rfl rfl (fun h25=>?_) (fun h25=>?_))
  ·
   dsimp only [cmpP] at h25
   refine Xe (Zk [0,3,25] rfl<|Wu 5 [] hs rfl<|Zy hs (Y_sliceTailK (off:=i) i underlying45 sizeOf3 rfl rfl rfl oM hc oM<|Wp 7 [0,0] hs rfl<|Zl [0,3,4,5] (fun m E w=>∃ (j k:Nat) (xs:List Int) (G2:Ghost),1≤j∧i+j≤n∧CmpI l xs (i+j) k∧m=n-j∧E=⟨[],[(0,(Vs bq n cq)),(3,Vi (k:Int)),(4,.slice (some ⟨bq,i,none⟩) (n-i) (cq-i)),(5,Vi (j:Int))]⟩∧St ⟨w0,G,feet [.row 3 1 (Vs bq n cq) n (l.map (.int .i64))]⟩ G2 [.row 3 1 (Vs bq n cq) n (xs.map (.int .i64))] w) rfl (⟨1,i,l,_,by omega,by omega,CmpI.start hi1 oM hcp h25,rfl,rfl,hs⟩) fun m E w hI=>?_))
   obtain ⟨j,k,xs,G2,hj1,hj2,hcm,rfl,rfl,hs⟩:=hI
   have hkl:=hcm.lt
   refine Wt 6 [] hs rfl<|Zy hs (Yc rfl (fun h32=>?_) fun h32=>?_)
   ·
    refine Wp 6 [0] hs rfl<|T_drawS [0,1,2,3,4,5,6,7,8,9] hs kR ?_
    replace hs:=hs.drew
    refine Xr [0,1] [] hs rfl<|Xt 2 hs rfl (Y_idxTailK (r:=i+j) i (j) underlying45 sizeOf3 rfl rfl rfl oM oM oM<|Xt 3 hs rfl (Y_ldRow 0 rfl isAgg3 rfl (hcm.at_ oM oM)<|Xr [4,5] [] hs rfl<|Xt 6 hs rfl (Y_sub (c:=((j-1:Nat):Int)) rfl rfl oM oM<|Xt 7 hs rfl (Y_idxTailK (r:=i+j-1) i (j-1) underlying45 sizeOf3 rfl rfl rfl oM oM oM<|Xt 8 hs rfl (Y_ldRow 0 rfl isAgg3 rfl (hcm.at_ oM oM)<|Xt 9 hs rfl (Y_cmpS rfl rfl rfl (fun h44=>?_) (fun h44=>?_)))))))
    ·
     dsimp only [cmpP] at h44
     refine Xe (Zk [0,3,4,5,44] rfl<|Wu 7 [] hs rfl<|Zy hs (Y_idxTailK (r:=i+j) i (j) underlying45 sizeOf3 rfl rfl rfl oM oM oM<|Zy hs (Y_ldRow 0 rfl isAgg3 rfl (hcm.at_ oM oM)<|Zy hs (Y_idxRow (k) underlying45 sizeOf3 rfl rfl rfl oM<|O_n (S_stRow hs sizeOf3 rfl rfl rfl oM fun _ hs =>Wp 3 [0] hs rfl<|Zy hs (Ya (s:=((k+1:Nat):Int)) rfl<|Wp 4 [0] hs rfl<|Zy hs (Ya (s:=((j+1:Nat):Int)) rfl<|Wp 1 [] hs rfl<|Zx [0,3,4,5] rfl ⟨j+1,k+1,xs.set k (l[i+j]'oM),_,by omega,by omega,hcm.put oM oM h44,rfl,rfl,by rw [List.map_set];exact hs⟩)))))))
    dsimp only [cmpP] at h44
    refine Xe (Zk [0,3,4,5,44] rfl<|Wu 4 [] hs rfl<|Zy hs (Ya (s:=((j+1:Nat):Int)) rfl<|Wp 1 [] hs rfl<|Zx [0,3,4,5] rfl ⟨j+1,k,xs,_,by omega,by omega,hcm.skip oM oM (by simpa using h44),rfl,rfl,hs⟩))
   refine Wp 3 [0] hs rfl<|Wu 4 [] hs rfl<|Zy hs (Y_sliceTailK (off:=k) k underlying45 sizeOf3 rfl rfl rfl oM hc oM<|O_n (S_clearTail (m:=k) hs underlying45 zeroValue3 rfl dC rfl rfl oM oM fun _ hs =>Wp 5 [0] hs rfl<|Zy hs (Y_sliceHead k underlying45 sizeOf3 rfl rfl rfl oM hc oM<|Wp 2 [0] hs rfl<|T_ret<|Zz results45 rfl ?_)))
   have hfi:=hcm.fin oM
   exact ⟨_,_,hs,k,hfi.2,rfl,by rw [← hfi.1];simp [List.map_take]⟩
  dsimp only [cmpP] at h25
  refine Xe (Zk [0,3,25] rfl<|Wu 4 [] hs rfl<|Zy hs (Ya (s:=((i+1:Nat):Int)) rfl<|Wp 1 [] hs rfl<|Zx [0,3] rfl ⟨i+1,_,by omega,by omega,cpt_new hi1 oM hcp h25,rfl,rfl,hs⟩))
 refine Wp 3 [0] hs rfl<|Wu 5 [0] hs rfl<|T_ret<|Zz results45 rfl ?_
 obtain rfl:i=n:=by omega
 rw [← hl,List.take_length] at hcp
 exact ⟨_,_,hs,i,by rw [hcp,hl],rfl,by rw [hcp]⟩
theorem cmpn_ok {G:Ghost} :
  FnOk prog 45 [Vn] G [.row 3 1 (Vn) 0 []] fun r _ H'=>r=Vn∧H'=[.row 3 1 (Vn) 0 []]:=by
 refine FnOk.of_T [(0,_)] func45 rfl ntmps45 sM rfl fun w0 hs =>Wt 17 [0,0,0] hs rfl<|T_ret<|Zz results45 rfl ?_
 exact ⟨_,_,hs,rfl,rfl⟩
def cmpI (a b:Int):Int:=if a<b then -1 else if b<a then 1 else 0
def cmpQ (a b:Int×Int):Int:=if cmpI a.1 b.1=0 then cmpI a.2 b.2 else cmpI a.1 b.1
def ltP (a b:Int×Int):Bool:=decide (cmpQ a b<0)
theorem ltP_iff {a b:Int×Int}:ltP a b=true↔a.1<b.1∨(a.1=b.1∧a.2<b.2):=by
  unfold ltP cmpQ cmpI
  rw [decide_eq_true_iff]
  split<;>(repeat' split)<;>omega
theorem ltP_no {a b:Int×Int}:ltP a b=false↔¬ (a.1<b.1∨(a.1=b.1∧a.2<b.2)):=by rw [← ltP_iff,Bool.not_eq_true]
theorem ordP:Ordr ltP:=⟨fun a b h=>by rw [ltP_iff] at h;rw [ltP_no];omega,fun a b c h1 h2=>by rw [ltP_no] at *;omega⟩
def prC (e:Int×Int):List Value:=[Vi e.1,Vi e.2]
def prL (l:List (Int×Int)):List Value:=l.flatMap prC
theorem prL_take (l:List (Int×Int)) (i:Nat):(prL l).take (i*2)=prL (l.take i):=by
  induction l generalizing i with
  | nil=>simp [prL]
  | cons a l ih =>
    cases i with
    | zero=>simp [prL]
    | succ i =>
      rw [show prL (a::l)=Vi a.1::Vi a.2::prL l from rfl,show (i+1)*2=i*2+1+1 from by omega,List.take_succ_cons,List.take_succ_cons,ih,List.take_succ_cons];rfl
theorem prL_drop (l:List (Int×Int)) (i:Nat):(prL l).drop (i*2)=prL (l.drop i):=by
  induction l generalizing i with
  | nil=>simp [prL]
  | cons a l ih =>
    cases i with
    | zero=>simp [prL]
    | succ i=>rw [show prL (a::l)=.int .i64 a.1::.int .i64 a.2::prL l from rfl,show (i+1)*2=i*2+1+1 from by omega,List.drop_succ_cons,List.drop_succ_cons,ih,List.drop_succ_cons]
theorem prL_get {l:List (Int×Int)} {i:Nat} (h:i<l.length):((prL l).drop (i*2)).take 2=prC l[i]:=by
  rw [prL_drop,List.drop_eq_getElem_cons h];rfl
theorem prL_app (a b:List (Int×Int)):prL (a++b)=prL a++prL b:=List.flatMap_append
theorem prL_set {l:List (Int×Int)} {i:Nat} (h:i<l.length) (e:Int×Int):(prL l).take (i*2)++prC e++(prL l).drop (i*2+2)=prL (l.set i e):=by
  rw [prL_take,show i*2+2=(i+1)*2 from by omega,prL_drop,List.set_eq_take_append_cons_drop,if_pos h,prL_app]
  simp [prL,prC]
theorem prL_one (l:List (Int×Int)):∀ y∈prL l,y.oneCell'=true:=by
  intro y hy
  obtain ⟨e,_,hy⟩:=List.mem_flatMap.1 hy
  simp only [prC,List.mem_cons,List.not_mem_nil,or_false] at hy
  rcases hy with rfl | rfl<;>rfl
theorem sw_pr {p p' t:List (Int×Int)} {x y:Int×Int} (h:p=p'++[y]):(((p++x::t).set p.length y).set (p.length-1) x)=p'++x::y::t:=by
  subst h
  have h1:=swap_set (p:=p') (t:=t) (x:=x) (y:=y)
  rw [← h1];simp
theorem pr_mid {p t:List (Int×Int)} {x:Int×Int}:((prL (p++x::t)).drop (p.length*2)).take 2=prC x:=by
  rw [prL_get sM];simp
theorem pr_pre {p p' t:List (Int×Int)} {x y:Int×Int} (h:p=p'++[y]):((prL (p++x::t)).drop ((p.length-1)*2)).take 2=prC y:=by
  subst h
  rw [prL_get sM];simp
theorem sl_blk {G:Ghost} {b n:Nat} {cs:List Value} (h:BlkAt G b cs) (hn:cs.length=n) (hm:n≤maxLen):Sl G (Vs b n n) 1 n cs :=
  ⟨_,_,rfl,by omega,Nat.le_refl _,hm,fun _=>⟨_,rfl,h.whole⟩⟩
section
variable {x:Cx} {W:World→Prop} {E:Env} {K:Value→Prop} {d:Option Tmp} {ty:TypeId} {pos:String} {aft:Array Edge} {g:Option (Nat×Bool)} {o:Operand}
theorem Y_sliceAll {t e:TypeId} {b n:Nat} (hu:x.P.underlying t=some (.array n e)) (hs:∀ w,(sizeOf e).run x.P w=.ok 1 w) (h1:ev E o=some (Vp b)) (h0:0<n) (k:K (Vs b n n)):Y x W ⟨d,.slice t o none none none,ty,pos,aft,g⟩ E K:=by
  have ha:(⟨b,0,none⟩:Addr).add 0=⟨b,0,none⟩:=rfl
  refine Y_of (v:=Vs b n n) (fun f hf w _=>?_) k
  have hne:¬ n=0:=by omega
  simp [execOp,hf.ev h1,Instr.sliceAt,Instr.sureAddr,Instr.sliceBounds,Instr.sliceBound,run_underlying hu,hs w,ha,hne]
end
theorem rowForm0 {c:Ctx} {G:Ghost} {H:List Res} {w:World} {e k n:Nat} {v:Value} {xs:List Value} (hs:St c G (.row e k v n xs::H) w):(v=Vn∧n=0∧xs=[])∨∃ b cap,v=Vs b n cap∧n≤cap:=by
  have hr:w.ownsRow 0 e k v n xs:=hs.hold (.row e k v n xs) sM
  rcases hr.2 with ⟨h1,h0⟩ | ⟨b,cap,cur,h1,_,_,h2,_⟩
  · exact .inl ⟨h1,h0,List.eq_nil_of_length_eq_zero (by rw [hr.1,h0,Nat.zero_mul])⟩
  · exact .inr ⟨b,cap,h1,h2⟩
theorem cmpii_ok {G:Ghost} {a b:Int} :
  FnOk prog 82 [Vi a,Vi b] G [] fun r _ H'=>H'=[]∧r=Vi (cmpI a b):=by
 refine FnOk.of_T [(0,_),(1,_)] func82 rfl ntmps82 sM rfl fun w0 hs =>Wt 7 [0] hs rfl<|O_s (Sc (isni_ok) hs rfl fun v1 G' H' _ hR hG8 hs=>?_)
 obtain ⟨rfl,rfl⟩:=hR
 replace hs:=hs.n rfl
 refine Wp 5 [0] hs rfl<|O_s (Sc (isni_ok) hs rfl fun v2 G' H' _ hR hG10 hs=>?_)
 obtain ⟨rfl,rfl⟩:=hR
 replace hs:=hs.n rfl
 refine Wp 21 [0,0,0] hs rfl<|Zy hs (Yc rfl (fun h16=>?_) fun h16=>?_)
 ·
  refine Wp 6 [0,0] hs rfl<|T_ret<|Zz results82 rfl ?_
  exact ⟨_,[],hs.done,rfl,congrArg (Value.int .i64) (by unfold cmpI;rw [if_pos oM])⟩
 refine Wp 8 [0] hs rfl<|Zy hs (Yc rfl (fun h19=>?_) fun h19=>?_)
 ·
  refine Wp 6 [0,0] hs rfl<|T_ret<|Zz results82 rfl ?_
  exact ⟨_,[],hs.done,rfl,congrArg (Value.int .i64) (by unfold cmpI;rw [if_neg oM,if_pos oM])⟩
 refine Wp 7 [0,0] hs rfl<|T_ret<|Zz results82 rfl ?_
 exact ⟨_,[],hs.done,rfl,congrArg (Value.int .i64) (by unfold cmpI;rw [if_neg oM,if_neg oM])⟩
theorem scmp_ok {G:Ghost} {v1 v2:Value} {a b:Int×Int} (h1:Ints G v1 [a.1,a.2]) (h2:Ints G v2 [b.1,b.2]) :
  FnOk prog 48 [v1,v2] G [] fun r _ H'=>H'=[]∧r=Vi (cmpQ a b):=by
 obtain ⟨A1,c1,rfl,_⟩:=id h1
 obtain ⟨A2,c2,rfl,_⟩:=id h2
 show FnOk _ _ [.slice A1 2 c1,.slice A2 2 c2] _ _ _
 refine FnOk.of_T [(0,_),(1,_)] func48 rfl ntmps48 sM rfl fun w0 hs=>?_
 have h10:=h1
 have h20:=h2
 refine Wt 11 [0,0] hs rfl<|T_block (T_loopN 3 (L:=[(0,_),(1,_),(9,_),(10,_),(11,_)]) ⟨rfl,rfl,rfl,rfl,rfl,trivial⟩ (U_go<|Wt 12 [0] hs rfl<|Zy hs (Y_idxI h1 0 underlying45 sizeOf3 rfl rfl rfl sM fun p14 hp14 =>Zy hs (Yg rfl (hp14)<|Wp 17 [0,0] hs rfl<|Zy hs (Y_idxI h2 0 underlying45 sizeOf3 rfl rfl rfl sM fun p22 hp22 =>Zy hs (Yg rfl (hp22)<|Wp 6 [0] hs rfl<|O_s (Sc (cmpii_ok (a:=a.1) (b:=b.1)) hs rfl fun v1 G' H' _ hR hG26 hs=>?_)))))))
 obtain ⟨rfl,rfl⟩:=hR
 replace hs:=hs.n rfl
 replace h1:=h1.mono hG26
 replace h2:=h2.mono hG26
 refine Wp 5 [0] hs rfl<|Zy hs (Yc rfl (fun h28=>?_) fun h28=>?_)
 ·
  refine Wp 7 [7,0,1,8,9,10,11,28,0] hs rfl<|T_ret<|Zz results48 rfl ?_
  exact ⟨_,[],hs.done,rfl,congrArg (Value.int .i64) (by unfold cmpQ;split<;>omega)⟩
 refine Wp 4 [7,0,1,8,9,10,11,28] hs rfl<|Zy hs (Y_add (c:=(1)) rfl rfl dC dC<|Wp 1 [] hs rfl<|O_nil ⟨[(0,_),(1,_),(9,_),(10,_),(11,_)],⟨rfl,rfl,rfl,rfl,rfl,trivial⟩,U_go ?_⟩)
 refine Wt 12 [0] hs rfl<|Zy hs (Y_idxI h1 1 underlying45 sizeOf3 rfl rfl rfl sM fun p14 hp14 =>Zy hs (Yg rfl (hp14)<|Wp 17 [0,0] hs rfl<|Zy hs (Y_idxI h2 1 underlying45 sizeOf3 rfl rfl rfl sM fun p22 hp22 =>Zy hs (Yg rfl (hp22)<|Wp 6 [0] hs rfl<|O_s (Sc (cmpii_ok (a:=a.2) (b:=b.2)) hs rfl fun v2 G' H' _ hR hG26 hs=>?_)))))
 obtain ⟨rfl,rfl⟩:=hR
 replace hs:=hs.n rfl
 refine Wp 5 [6,0,1,8,9,10,11] hs rfl<|Zy hs (Yc rfl (fun h28=>?_) fun h28=>?_)
 ·
  refine Wp 7 [0,0] hs rfl<|T_ret<|Zz results48 rfl ?_
  exact ⟨_,[],hs.done,rfl,congrArg (Value.int .i64) (by unfold cmpQ;split<;>omega)⟩
 refine Wp 4 [0] hs rfl<|Zy hs (Y_add (c:=(2)) rfl rfl dC dC<|Wp 1 [] hs rfl<|O_nil ⟨[(0,_),(1,_),(9,_),(10,_),(11,_)],⟨rfl,rfl,rfl,rfl,rfl,trivial⟩,U_go ?_⟩)
 refine Wt 7 [0] hs rfl<|Wu 15 [0,0] hs rfl<|T_ret<|Zz results48 rfl ?_
 exact ⟨_,[],hs.done,rfl,congrArg (Value.int .i64) (by unfold cmpQ;split<;>omega)⟩
theorem pair1_ok {G:Ghost} {a b:Int×Int} :
  FnOk prog 47 [.agg (prC a).toArray,.agg (prC b).toArray] G [] fun r _ H'=>H'=[]∧r=Vi (cmpQ a b):=by
 refine FnOk.of_T [(0,_),(1,_)] func47 rfl ntmps47 sM rfl fun w0 hs =>Wt 2 [] hs rfl<|O_s (Sb hs rfl fun b2 _ hs=>O_s (Sb hs rfl fun b3 _ hs=>Wp 2 [0] hs rfl ?_))
 have hs:=hs.f1
 obtain ⟨_,hGbhQ2,hQ2,hs⟩:=hs.fixBlk (fun k _=>noMb k)
 replace hQ2:BlkAt _ b2 _:=hQ2
 obtain ⟨_,hGbhQ3,hQ3,hs⟩:=hs.fixBlk (fun k _=>noMb k)
 replace hQ2:=hQ2.mono hGbhQ3
 replace hQ3:BlkAt _ b3 _:=hQ3
 refine Wu 1 [] hs rfl<|T_drawS [0,1,2,3] hs kR ?_
 replace hs:=hs.drew
 refine Xt 0 hs rfl (Y_sliceAll underlying31 sizeOf3 rfl dC<|Xt 1 hs rfl (Y_sliceAll underlying31 sizeOf3 rfl dC ?_))
 have hle:=hs.le
 refine Xo 2 rfl (Sc (scmp_ok (a:=a) (b:=b) (sl_blk hQ2 rfl (show (2:Nat)≤maxLen by decide)) (sl_blk hQ3 rfl (show (2:Nat)≤maxLen by decide))) hs rfl fun v1 G' H' _ hR hG7 hs=>?_)
 obtain ⟨rfl,rfl⟩:=hR
 replace hs:=hs.n rfl
 refine A_moreS hs hle hG7 (List.Sublist.refl _)<|Xr [3] [] hs rfl<|Xe (Zk [4] rfl<|T_ret<|Zz results47 rfl ?_)
 exact ⟨_,[],hs.done,rfl,rfl⟩
theorem insp_ok {G:Ghost} {bq cq n:Nat} {l:List (Int×Int)} (hl:l.length=n) (hn:n≤12) :
  FnOk prog 119 [Vs bq n cq,Vi 0,Vi (n:Int),.func (.func 47) #[] #[]] G [.row 31 2 (Vs bq n cq) n (prL l)] fun r _ H'=>∃ l',l'.Perm l∧Srt ltP l'∧H'=[.row 31 2 (Vs bq n cq) n (prL l')]:=by
 refine FnOk.of_T [(0,_),(1,_),(2,_),(3,_)] func119 rfl ntmps119 sM rfl fun w0 hs =>Wt 3 [] hs rfl<|Zy hs (Y_add rfl rfl rfl oM<|Wp 2 [0] hs rfl<|Zl [0,1,2,3,8] (fun m E w=>∃ (i:Nat) (s r:List (Int×Int)) (G2:Ghost),1≤i∧i≤13∧s.length≤i∧(s.length=i∨r=[])∧Srt ltP s∧(s++r).Perm l∧m=n-i∧E=⟨[],[(0,(Vs bq n cq)),(1,Vi 0),(2,Vi (n:Int)),(3,.func (.func 47) #[] #[]),(8,Vi (i:Int))]⟩∧St ⟨w0,G,feet [.row 31 2 (Vs bq n cq) n (prL l)]⟩ G2 [.row 31 2 (Vs bq n cq) n (prL (s++r))] w) rfl (⟨1,l.take 1,l.drop 1,_,by omega,by omega,by rw [List.length_take];omega,by rw [List.length_take];rcases Nat.eq_zero_or_pos l.length with h0 | h0;exact .inr (List.drop_eq_nil_of_le oM);exact .inl oM,srt_one _,by rw [List.take_append_drop],rfl,rfl,by rw [List.take_append_drop];exact hs⟩) fun m E w hI=>?_)
 obtain ⟨i,s,r,G2,hi1,hi2,hsi,hsr,hss,hpm,rfl,rfl,hs⟩:=hI
 have hpl:=hpm.length_eq
 refine Wt 5 [] hs rfl<|Zy hs (Yc rfl (fun h14=>?_) fun h14=>?_)
 ·
  refine Wp 10 [0,0] hs rfl ?_
  obtain ⟨x,r',rfl,hsl⟩:=head_of (n:=n) (i:=i) oM oM hsr hsi
  refine Zl [0,1,2,3,8,9] (fun m E w=>∃ (p q:List (Int×Int)) (G2:Ghost),p.length+q.length=i∧Srt ltP (p++q)∧(∀ b∈q,ltP b x=false)∧(p++x::(q++r')).Perm l∧m=p.length∧E=⟨[],[(0,(Vs bq n cq)),(1,Vi 0),(2,Vi (n:Int)),(3,.func (.func 47) #[] #[]),(8,Vi (i:Int)),(9,Vi (p.length:Int))]⟩∧St ⟨w0,G,feet [.row 31 2 (Vs bq n cq) n (prL l)]⟩ G2 [.row 31 2 (Vs bq n cq) n (prL (p++x::(q++r')))] w) rfl (⟨s,[],_,by simp;omega,by simpa using hss,by simp,by simpa using hpm,hsl.symm,by rw [hsl],by simpa using hs⟩) fun m E w hI=>?_
  obtain ⟨p,q,G2,hpi,hpq,hqx,hpx,rfl,rfl,hs⟩:=hI
  have hpl2:=hpx.length_eq
  refine Wt 2 [] hs rfl<|T_drawS [0,1,2,3,4,5,6,7,8,9,10,11,12,13,14,15,16] hs kR ?_
  replace hs:=hs.drew
  refine Xr [0,1] [] hs rfl<|Xt 2 hs rfl (Y_cmpS rfl rfl rfl (fun h20=>?_) (fun h20=>?_))
  ·
   dsimp only [cmpP] at h20
   refine Xr [3,4,5,6] [] hs rfl ?_
   obtain ⟨p',y,hpe⟩:=last_of (p:=p) oM
   refine Xt 7 hs rfl (Y_idxRowK (p.length) underlying35 sizeOf31 rfl rfl rfl Z46<|Xt 8 hs rfl (Y_ldRowK (i:=p.length) (vs:=prC x) 0 rfl isAgg31 sizeOf31 rfl Z46 (pr_mid) rfl<|Xr [9,10] [] hs rfl<|Xt 11 hs rfl (Y_sub (c:=((p.length-1:Nat):Int)) rfl rfl oM oM<|Xt 12 hs rfl (Y_idxRowK (p.length-1) underlying35 sizeOf31 rfl rfl rfl Z46<|Xt 13 hs rfl (Y_ldRowK (i:=p.length-1) (vs:=prC y) 0 rfl isAgg31 sizeOf31 rfl Z46 (pr_pre hpe) rfl ?_)))))
   have hle:=hs.le
   refine Xo 14 rfl (S_callV (args:=[_,_]) (lb:=[]) (H1:=[]) hs rfl rfl func47 rfl kR (pair1_ok (a:=x) (b:=y)) fun v1 G' H' _ hR hG32 hs=>?_)
   obtain ⟨rfl,rfl⟩:=hR
   replace hs:=hs.n rfl
   refine A_moreS hs hle hG32 (List.Sublist.refl _)<|Xt 15 hs rfl (Y_cmpS rfl rfl rfl (fun h33=>?_) (fun h33=>?_))
   ·
    dsimp only [cmpP] at h33
    have h32:ltP x y=true:=decide_eq_true h33
    refine Xr [16] [] hs rfl<|Xe (Zk [0,1,2,3,8,9,34] rfl<|Wu 4 [] hs rfl<|T_drawS [0,1,5,6,7,8,9,10,11,12,13,14] hs kR ?_)
    replace hs:=hs.drew
    refine A_pure 2 rfl kR rfl (Y_move rfl<|A_pure 3 rfl kR rfl (Y_move rfl<|A_pure 4 rfl kR rfl (Y_sub (c:=((p.length - 1:Nat):Int)) rfl rfl oM oM<|Xr [0,1,5,6] [] hs rfl<|Xt 7 hs rfl (Y_sub (c:=((p.length - 1:Nat):Int)) rfl rfl oM oM<|Xt 8 hs rfl (Y_idxRowK (p.length - 1) underlying35 sizeOf31 rfl rfl rfl Z46<|Xt 9 hs rfl (Y_ldRowK (i:=p.length - 1) (vs:=prC y) 0 rfl isAgg31 sizeOf31 rfl Z46 (pr_pre hpe) rfl<|Xr [10,11] [] hs rfl<|Xt 12 hs rfl (Y_idxRowK (p.length) underlying35 sizeOf31 rfl rfl rfl Z46<|Xt 13 hs rfl (Y_ldRowK (i:=p.length) (vs:=prC x) 0 rfl isAgg31 sizeOf31 rfl Z46 (pr_mid) rfl<|Xt 14 hs rfl (Y_idxRowK (p.length) underlying35 sizeOf31 rfl rfl rfl Z46<|Xn 15 rfl (S_stRowK (i:=p.length) (vs:=prC y) hs sizeOf31 rfl rfl rfl rfl Z46 fun _ hs=>?_))))))))))
    rw [prL_set sM] at hs
    refine Xa 16 rfl (S_y hs rfl (Y_idxRowK (p.length - 1) underlying35 sizeOf31 rfl rfl rfl Z46<|Xn 17 rfl (S_stRowK (i:=p.length - 1) (vs:=prC x) hs sizeOf31 rfl rfl rfl rfl Z46 fun _ hs=>?_)))
    rw [prL_set (by simp at hpl2 ⊢;omega)] at hs
    refine Xe (Zk [0,1,2,3,8,9] rfl<|Wu 2 [] hs rfl<|Zy hs (Y_sub (c:=((p.length-1:Nat):Int)) rfl rfl oM oM<|Wp 1 [] hs rfl ?_))
    obtain ⟨hpq2,hqx2⟩:=Srt.swap (p:=p') (q:=q) ordP (by rw [← hpe];exact hpq) hqx h32
    have hpl3:p.length=p'.length+1:=by rw [hpe];simp
    refine Zx [0,1,2,3,8,9] rfl ⟨p',y::q,_,by simp;omega,hpq2,hqx2,by rw [hpe] at hpx;refine List.Perm.trans ?_ hpx;rw [List.append_assoc];exact List.Perm.append_left _ (List.Perm.swap _ _ _),rfl,by rw [hpl3];simp,castH hs (by rw [sw_pr hpe];simp)⟩
   dsimp only [cmpP] at h33
   have h32:ltP x y=false:=decide_eq_false h33
   refine Xr [16] [] hs rfl<|Xe (Zk [0,1,2,3,8,9,34] rfl<|Wu 2 [] hs rfl<|Wu 2 [] hs rfl<|Zy hs (Ya (s:=((i+1:Nat):Int)) rfl<|Wp 1 [] hs rfl ?_))
   have hst:Srt ltP (p++x::q):=Srt.stop ordP hpq hqx (.inr ⟨p',y,hpe,h32⟩)
   refine Zx [0,1,2,3,8] rfl ⟨i+1,p++x::q,r',_,by omega,by omega,by simp;omega,.inl Z50,hst,by simpa using hpx,rfl,rfl,castH hs sM⟩
  dsimp only [cmpP] at h20
  refine Xr [3,4,5,6,7,8,9,10,11,12,13,14,15,16] [] hs rfl<|Xe (Zk [0,1,2,3,8,9,34] rfl<|Wu 2 [] hs rfl<|Wu 2 [] hs rfl<|Zy hs (Ya (s:=((i+1:Nat):Int)) rfl<|Wp 1 [] hs rfl ?_))
  have hst:Srt ltP (p++x::q):=Srt.stop ordP hpq hqx (.inl (List.eq_nil_of_length_eq_zero oM))
  refine Zx [0,1,2,3,8] rfl ⟨i+1,p++x::q,r',_,by omega,by omega,by simp;omega,.inl Z50,hst,by simpa using hpx,rfl,rfl,castH hs sM⟩
 refine Wp 3 [0] hs rfl ?_
 try dsimp only [Ex.At,Ex.sqs,Ex.sq,Ex.lp,Ex.bk]
 try rw [show Nat.beq _ _=true from Nat.beq_refl _,cond_true]
 refine Rt_finN (vs:=[]) results119 rfl trivial ?_
 try dsimp only [tup]
 have hre:r=[]:=by rcases hsr with h | h;exact List.eq_nil_of_length_eq_zero (by rw [List.length_append] at hpl;omega);exact h
 subst hre
 rw [List.append_nil] at hpm hs
 exact ⟨_,_,hs,s,hpm,hss,rfl⟩
theorem pdqp_ok {G:Ghost} {bq cq n:Nat} {z:Int} {l:List (Int×Int)} (hl:l.length=n) (hn:n≤12) :
  FnOk prog 81 [Vs bq n cq,Vi 0,Vi (n:Int),Vi z,.func (.func 47) #[] #[]] G [.row 31 2 (Vs bq n cq) n (prL l)] fun r _ H'=>∃ l',l'.Perm l∧Srt ltP l'∧H'=[.row 31 2 (Vs bq n cq) n (prL l')]:=by
 refine FnOk.of_T [(0,_),(1,_),(2,_),(3,_),(4,_)] func81 rfl ntmps81 sM rfl fun w0 hs =>Wt 8 [0,0] hs rfl<|T_block (T_loopN 1 (L:=[(0,_),(1,_),(2,_),(3,_),(4,_),(10,_),(11,_)]) ⟨rfl,rfl,rfl,rfl,rfl,rfl,rfl,trivial⟩ (U_go<|Wt 5 [] hs rfl<|Zy hs (Y_sub (c:=(n:Int)) rfl rfl oM oM<|Wp 6 [0] hs rfl<|Zy hs (Y_cmpT rfl rfl rfl oM<|Wp 8 [0] hs rfl<|O_s (Sc (insp_ok hl hn) hs rfl fun v1 G' H' _ hR hG30 hs=>?_)))))
 obtain ⟨l',hpl,hsl,rfl⟩:=hR
 replace hs:=hs.n rfl
 refine Wp 1 [0] hs rfl<|T_ret ?_
 refine Rt_fin (vs:=[]) results81 rfl trivial ?_
 try dsimp only [tup]
 exact ⟨_,_,hs,l',hpl,hsl,rfl⟩
theorem srtp_ok {G:Ghost} {bq cq n:Nat} {l:List (Int×Int)} (hl:l.length=n) (hn:n≤12) :
  FnOk prog 46 [Vs bq n cq,.func (.func 47) #[] #[]] G [.row 31 2 (Vs bq n cq) n (prL l)] fun r _ H'=>∃ l',l'.Perm l∧Srt ltP l'∧H'=[.row 31 2 (Vs bq n cq) n (prL l')]:=by
 refine FnOk.of_T [(0,_),(1,_)] func46 rfl ntmps46 sM rfl fun w0 hs =>Wt 10 [0] hs rfl<|Zy hs (Y_conv underlying3 underlying144 (c:=(n:Int)) rfl (by rw [IntKind.wrap_u64];omega)<|O_s (Sc (lenn_ok (a:=n) oM) hs rfl fun v1 G' H' _ hR hG11 hs=>?_))
 obtain ⟨rfl,z,rfl⟩:=hR
 replace hs:=hs.n rfl
 refine Wp 1 [] hs rfl<|O_s (Sc (pdqp_ok hl hn) hs rfl fun v2 G' H' _ hR hG13 hs=>?_)
 obtain ⟨l',hpl,hsl,rfl⟩:=hR
 replace hs:=hs.n rfl
 refine O_nil (Rt_finN (vs:=[]) results46 rfl trivial ?_)
 try dsimp only [tup]
 exact ⟨_,_,hs,l',hpl,hsl,rfl⟩
theorem insq_ok {G:Ghost} :
  FnOk prog 119 [Vn,Vi 0,Vi 0,.func (.func 47) #[] #[]] G [.row 31 2 (Vn) 0 []] fun r _ H'=>H'=[.row 31 2 (Vn) 0 []]:=by
 refine FnOk.of_T [(0,_),(1,_),(2,_),(3,_)] func119 rfl ntmps119 sM rfl fun w0 hs =>Wt 3 [] hs rfl<|Zy hs (Y_add (c:=(1)) rfl rfl dC dC<|Wp 2 [0] hs rfl<|T_block (T_loopN 1 (L:=[(0,_),(1,_),(2,_),(3,_),(8,_)]) ⟨rfl,rfl,rfl,rfl,rfl,trivial⟩ (U_go<|Wt 9 [0] hs rfl ?_)))
 try dsimp only [Ex.At,Ex.sqs,Ex.sq,Ex.lp,Ex.bk]
 try rw [show Nat.beq _ _=true from Nat.beq_refl _,cond_true]
 refine Rt_finN (vs:=[]) results119 rfl trivial ?_
 try dsimp only [tup]
 exact ⟨_,_,hs,rfl⟩
theorem pdqq_ok {G:Ghost} {z:Int} :
  FnOk prog 81 [Vn,Vi 0,Vi 0,Vi z,.func (.func 47) #[] #[]] G [.row 31 2 (Vn) 0 []] fun r _ H'=>H'=[.row 31 2 (Vn) 0 []]:=by
 refine FnOk.of_T [(0,_),(1,_),(2,_),(3,_),(4,_)] func81 rfl ntmps81 sM rfl fun w0 hs =>Wt 8 [0,0] hs rfl<|T_block (T_loopN 1 (L:=[(0,_),(1,_),(2,_),(3,_),(4,_),(10,_),(11,_)]) ⟨rfl,rfl,rfl,rfl,rfl,rfl,rfl,trivial⟩ (U_go<|Wt 5 [] hs rfl<|Zy hs (Y_sub (c:=(0)) rfl rfl dC dC<|Wp 15 [0,0] hs rfl<|O_s (Sc (insq_ok) hs rfl fun v1 G' H' _ hR hG30 hs=>?_))))
 obtain rfl:=hR
 replace hs:=hs.n rfl
 refine Wp 1 [0] hs rfl<|T_ret ?_
 refine Rt_fin (vs:=[]) results81 rfl trivial ?_
 try dsimp only [tup]
 exact ⟨_,_,hs,rfl⟩
theorem srtq_ok {G:Ghost} :
  FnOk prog 46 [Vn,.func (.func 47) #[] #[]] G [.row 31 2 (Vn) 0 []] fun r _ H'=>H'=[.row 31 2 (Vn) 0 []]:=by
 refine FnOk.of_T [(0,_),(1,_)] func46 rfl ntmps46 sM rfl fun w0 hs =>Wt 10 [0] hs rfl<|Zy hs (Y_conv underlying3 underlying144 (c:=0) rfl dC<|O_s (Sc (lenn_ok (a:=0) oM) hs rfl fun v1 G' H' _ hR hG11 hs=>?_))
 obtain ⟨rfl,z,rfl⟩:=hR
 replace hs:=hs.n rfl
 refine Wp 1 [] hs rfl<|O_s (Sc (pdqq_ok) hs rfl fun v2 G' H' _ hR hG13 hs=>?_)
 obtain rfl:=hR
 replace hs:=hs.n rfl
 refine O_nil (Rt_finN (vs:=[]) results46 rfl trivial ?_)
 try dsimp only [tup]
 exact ⟨_,_,hs,rfl⟩
theorem pr_eq {a b:Int×Int}:[a.1,a.2]=[b.1,b.2]↔a=b:=by
  obtain ⟨a1,a2⟩:=a;obtain ⟨b1,b2⟩:=b;simp
theorem CmpI.atP {l xs:List (Int×Int)} {i k:Nat} (c:CmpI l xs i k) {t:Nat} (h:i-1≤t) (ht:t<l.length):((prL xs).drop (t*2)).take 2=prC l[t]:=by
  have h1:t<xs.length:=by rw [c.len];exact ht
  have h2:=c.same t h
  rw [List.getElem?_eq_getElem h1,List.getElem?_eq_getElem ht] at h2
  injection h2 with h2
  rw [prL_get h1,h2]
theorem cmpp_ok {G:Ghost} {bq cq n:Nat} {l:List (Int×Int)} (hl:l.length=n) (hn:n≤12) (hc:n≤cq) :
  FnOk prog 49 [Vs bq n cq] G [.row 31 2 (Vs bq n cq) n (prL l)] fun r _ H'=>∃ k,k=(cptF l).length∧r=Vs bq k cq∧H'=[.row 31 2 (Vs bq k cq) k (prL (cptF l))]:=by
 refine FnOk.of_T [(0,_)] func49 rfl ntmps49 sM rfl fun w0 hs =>Wt 9 [0] hs rfl<|Zy hs (Yc rfl (fun h8=>?_) fun h8=>?_)
 ·
  refine Wp 7 [0,0] hs rfl<|T_ret<|Zz results49 rfl ?_
  exact ⟨_,_,hs,n,by rw [cpt_short oM,hl],rfl,by rw [cpt_short oM]⟩
 refine Wp 8 [0,0] hs rfl<|Zl [0,3] (fun m E w=>∃ (i:Nat) (G2:Ghost),1≤i∧i≤n∧cptF (l.take i)=l.take i∧m=n-i∧E=⟨[],[(0,(Vs bq n cq)),(3,Vi (i:Int))]⟩∧St ⟨w0,G,feet [.row 31 2 (Vs bq n cq) n (prL l)]⟩ G2 [.row 31 2 (Vs bq n cq) n (prL l)] w) rfl (⟨1,_,by omega,by omega,cpt_take1,rfl,rfl,hs⟩) fun m E w hI=>?_
 obtain ⟨i,G2,hi1,hi2,hcp,rfl,rfl,hs⟩:=hI
 refine Wt 6 [] hs rfl<|Zy hs (Yc rfl (fun h13=>?_) fun h13=>?_)
 ·
  refine Wp 6 [0] hs rfl<|T_drawS [0,1,2,3,4,5,6,7,8,9] hs kR ?_
  replace hs:=hs.drew
  refine Xr [0,1] [] hs rfl<|Xt 2 hs rfl (Y_idxRowK (i) underlying35 sizeOf31 rfl rfl rfl oM<|Xt 3 hs rfl (Y_ldRowK (i:=i) (vs:=prC (l[i]'oM)) 0 rfl isAgg31 sizeOf31 rfl oM (prL_get oM) rfl<|Xr [4,5] [] hs rfl<|Xt 6 hs rfl (Y_sub (c:=((i-1:Nat):Int)) rfl rfl oM oM<|Xt 7 hs rfl (Y_idxRowK (i-1) underlying35 sizeOf31 rfl rfl rfl oM<|Xt 8 hs rfl (Y_ldRowK (i:=i-1) (vs:=prC (l[i-1]'oM)) 0 rfl isAgg31 sizeOf31 rfl oM (prL_get oM) rfl<|Xt 9 hs rfl (Y_eqlNums (a:=[(l[i]'oM).1,(l[i]'oM).2]) (b:=[(l[i-1]'oM).1,(l[i-1]'oM).2]) underlying31 sizeOf3 isAgg3 underlying3 kR rfl rfl rfl rfl (fun h25=>?_) (fun h25=>?_)))))))
  ·
   refine Xe (Zk [0,3,25] rfl<|Wu 5 [] hs rfl<|Zy hs (Y_sliceTailK (off:=(i*2)) i underlying35 sizeOf31 rfl rfl rfl oM hc (rfl)<|Wp 7 [0,0] hs rfl<|Zl [0,3,4,5] (fun m E w=>∃ (j k:Nat) (xs:List (Int×Int)) (G2:Ghost),1≤j∧i+j≤n∧CmpI l xs (i+j) k∧m=n-j∧E=⟨[],[(0,(Vs bq n cq)),(3,Vi (k:Int)),(4,.slice (some ⟨bq,(i*2),none⟩) (n-i) (cq-i)),(5,Vi (j:Int))]⟩∧St ⟨w0,G,feet [.row 31 2 (Vs bq n cq) n (prL l)]⟩ G2 [.row 31 2 (Vs bq n cq) n (prL xs)] w) rfl (⟨1,i,l,_,by omega,by omega,CmpI.start hi1 oM hcp (pr_eq.1 h25),rfl,rfl,hs⟩) fun m E w hI=>?_))
   obtain ⟨j,k,xs,G2,hj1,hj2,hcm,rfl,rfl,hs⟩:=hI
   have hkl:=hcm.lt
   refine Wt 6 [] hs rfl<|Zy hs (Yc rfl (fun h32=>?_) fun h32=>?_)
   ·
    refine Wp 6 [0] hs rfl<|T_drawS [0,1,2,3,4,5,6,7,8,9] hs kR ?_
    replace hs:=hs.drew
    refine Xr [0,1] [] hs rfl<|Xt 2 hs rfl (Y_idxTailK (r:=(i+j)*2) i (j) underlying35 sizeOf31 rfl rfl rfl oM rfl oM<|Xt 3 hs rfl (Y_ldRowK (i:=i+j) (vs:=prC (l[i+j]'oM)) 0 rfl isAgg31 sizeOf31 rfl oM (hcm.atP oM oM) rfl<|Xr [4,5] [] hs rfl<|Xt 6 hs rfl (Y_sub (c:=((j-1:Nat):Int)) rfl rfl oM oM<|Xt 7 hs rfl (Y_idxTailK (r:=(i+j-1)*2) i (j-1) underlying35 sizeOf31 rfl rfl rfl oM rfl oM<|Xt 8 hs rfl (Y_ldRowK (i:=i+j-1) (vs:=prC (l[i+j-1]'oM)) 0 rfl isAgg31 sizeOf31 rfl oM (hcm.atP oM oM) rfl<|Xt 9 hs rfl (Y_neqNums (a:=[(l[i+j]'oM).1,(l[i+j]'oM).2]) (b:=[(l[i+j-1]'oM).1,(l[i+j-1]'oM).2]) underlying31 sizeOf3 isAgg3 underlying3 kR rfl rfl rfl rfl (fun h44=>?_) (fun h44=>?_)))))))
    ·
     refine Xe (Zk [0,3,4,5,44] rfl<|Wu 7 [] hs rfl<|Zy hs (Y_idxTailK (r:=(i+j) * 2) i (j) underlying35 sizeOf31 rfl rfl rfl oM rfl oM<|Zy hs (Y_ldRowK (i:=i+j) (vs:=prC (l[i+j]'oM)) 0 rfl isAgg31 sizeOf31 rfl oM (hcm.atP oM oM) rfl<|Zy hs (Y_idxRowK (k) underlying35 sizeOf31 rfl rfl rfl oM<|O_n (S_stRowK (i:=k) (vs:=prC (l[i+j]'oM)) hs sizeOf31 rfl rfl rfl rfl oM fun _ hs=>?_)))))
     rw [prL_set (by rw [hcm.len];omega)] at hs
     refine Wp 3 [0] hs rfl<|Zy hs (Ya (s:=((k+1:Nat):Int)) rfl<|Wp 4 [0] hs rfl<|Zy hs (Ya (s:=((j+1:Nat):Int)) rfl<|Wp 1 [] hs rfl<|Zx [0,3,4,5] rfl ⟨j+1,k+1,xs.set k (l[i+j]'oM),_,by omega,by omega,hcm.put oM oM (fun h=>h44 (pr_eq.2 h)),rfl,rfl,hs⟩))
    refine Xe (Zk [0,3,4,5,44] rfl<|Wu 4 [] hs rfl<|Zy hs (Ya (s:=((j+1:Nat):Int)) rfl<|Wp 1 [] hs rfl<|Zx [0,3,4,5] rfl ⟨j+1,k,xs,_,by omega,by omega,hcm.skip oM oM (pr_eq.1 (by simpa using h44)),rfl,rfl,hs⟩))
   refine Wp 3 [0] hs rfl<|Wu 4 [] hs rfl<|Zy hs (Y_sliceTailK (off:=(k * 2)) k underlying35 sizeOf31 rfl rfl rfl oM hc (rfl)<|O_n (S_clearTail (m:=k) hs underlying35 zeroValue31 rfl dC rfl rfl (rfl) oM fun _ hs =>Wp 5 [0] hs rfl<|Zy hs (Y_sliceHead k underlying35 sizeOf31 rfl rfl rfl oM hc oM<|Wp 2 [0] hs rfl<|T_ret<|Zz results49 rfl ?_)))
   have hfi:=hcm.fin oM
   exact ⟨_,_,hs,k,hfi.2,rfl,by rw [← hfi.1];simp [prL_take]⟩
  refine Xe (Zk [0,3,25] rfl<|Wu 4 [] hs rfl<|Zy hs (Ya (s:=((i+1:Nat):Int)) rfl<|Wp 1 [] hs rfl<|Zx [0,3] rfl ⟨i+1,_,by omega,by omega,cpt_new hi1 oM hcp (fun h=>h25 (pr_eq.2 h)),rfl,rfl,hs⟩))
 refine Wp 3 [0] hs rfl<|Wu 5 [0] hs rfl<|T_ret<|Zz results49 rfl ?_
 obtain rfl:i=n:=by omega
 rw [← hl,List.take_length] at hcp
 exact ⟨_,_,hs,i,by rw [hcp,hl],rfl,by rw [hcp]⟩
theorem cmpq_ok {G:Ghost} :
  FnOk prog 49 [Vn] G [.row 31 2 (Vn) 0 []] fun r _ H'=>r=Vn∧H'=[.row 31 2 (Vn) 0 []]:=by
 refine FnOk.of_T [(0,_)] func49 rfl ntmps49 sM rfl fun w0 hs =>Wt 17 [0,0,0] hs rfl<|T_ret<|Zz results49 rfl ?_
 exact ⟨_,_,hs,rfl,rfl⟩
theorem srtg_ok {G:Ghost} {v:Value} {l:List Int} (hn:l.length≤12):FnOk prog 44 [v] G [.row 3 1 v l.length (l.map (.int .i64))] fun _ _ H'=>∃ l',l'.Perm l∧Srt ltI l'∧H'=[.row 3 1 v l'.length (l'.map (.int .i64))]:=by
  intro w hs
  rcases rowForm0 hs with ⟨rfl,h0,hx⟩ | ⟨b,cap,rfl,_⟩
  · obtain rfl:=List.eq_nil_of_length_eq_zero h0
    exact (srtn_ok.mono fun r G' H' _ h=>⟨[],List.Perm.refl _,List.Pairwise.nil,h⟩) w hs
  · exact ((srti_ok (bq:=b) (cq:=cap) rfl hn).mono fun r G' H' _ ⟨l',h1,h2,h3⟩=>⟨l',h1,h2,by rw [h1.length_eq];exact h3⟩) w hs
theorem cmpg_ok {G:Ghost} {v:Value} {l:List Int} (hn:l.length≤12):FnOk prog 45 [v] G [.row 3 1 v l.length (l.map (.int .i64))] fun r _ H'=>H'=[.row 3 1 r (cptF l).length ((cptF l).map (.int .i64))]:=by
  intro w hs
  rcases rowForm0 hs with ⟨rfl,h0,hx⟩ | ⟨b,cap,rfl,hc⟩
  · obtain rfl:=List.eq_nil_of_length_eq_zero h0
    exact (cmpn_ok.mono fun r G' H' _ ⟨h1,h2⟩=>by rw [h1];exact h2) w hs
  · exact ((cmpi_ok (bq:=b) (cq:=cap) rfl hn hc).mono fun r G' H' _ ⟨k,h1,h2,h3⟩=>by rw [h2,← h1];exact h3) w hs
theorem srtgp_ok {G:Ghost} {v:Value} {l:List (Int×Int)} (hn:l.length≤12):FnOk prog 46 [v,.func (.func 47) #[] #[]] G [.row 31 2 v l.length (prL l)] fun _ _ H'=>∃ l',l'.Perm l∧Srt ltP l'∧H'=[.row 31 2 v l'.length (prL l')]:=by
  intro w hs
  rcases rowForm0 hs with ⟨rfl,h0,hx⟩ | ⟨b,cap,rfl,_⟩
  · obtain rfl:=List.eq_nil_of_length_eq_zero h0
    exact (srtq_ok.mono fun r G' H' _ h=>⟨[],List.Perm.refl _,List.Pairwise.nil,h⟩) w hs
  · exact ((srtp_ok (bq:=b) (cq:=cap) rfl hn).mono fun r G' H' _ ⟨l',h1,h2,h3⟩=>⟨l',h1,h2,by rw [h1.length_eq];exact h3⟩) w hs
theorem cmpgp_ok {G:Ghost} {v:Value} {l:List (Int×Int)} (hn:l.length≤12):FnOk prog 49 [v] G [.row 31 2 v l.length (prL l)] fun r _ H'=>H'=[.row 31 2 r (cptF l).length (prL (cptF l))]:=by
  intro w hs
  rcases rowForm0 hs with ⟨rfl,h0,hx⟩ | ⟨b,cap,rfl,hc⟩
  · obtain rfl:=List.eq_nil_of_length_eq_zero h0
    exact (cmpq_ok.mono fun r G' H' _ ⟨h1,h2⟩=>by rw [h1];exact h2) w hs
  · exact ((cmpp_ok (bq:=b) (cq:=cap) rfl hn hc).mono fun r G' H' _ ⟨k,h1,h2,h3⟩=>by rw [h2,← h1];exact h3) w hs
theorem TI31:TI prog 31 (.agg #[Vi 0,Vi 0]) 2 16:=TI.of kR
def runI (f:FltM) (n:Int):Int:=match f.nodes[n.toNat]? with | some x=>(x.vers[x.runs.toNat]?).getD 0 | none=>0
def lnk (r:List Int):List (Int×Int):=r.zip r.tail
def rawL (f:FltM):List (Int×Int):=f.routes.flatMap lnk
def rawU (f:FltM):List Int:=(rawL f).map fun e=>(posK e f.edges:Int)
def UsedP (f:FltM) (u:List Int):Prop:=u.Pairwise (fun a b=>a<b)∧∀ x,x∈u↔x∈rawU f
theorem lnk_len (r:List Int):(lnk r).length=r.length-1:=by unfold lnk;rw [List.length_zip,List.length_tail];omega
theorem lnk_get {r:List Int} {j:Nat} (h1:1≤j) (h:j<r.length):(lnk r).drop (j-1)=(r[j-1]'oM,r[j])::(lnk r).drop j:=by
  rw [List.drop_eq_getElem_cons (by rw [lnk_len];omega)]
  congr 1
  · unfold lnk
    rw [List.getElem_zip,List.getElem_tail]
    congr 2;omega
  · congr 1;omega
theorem route_links {es:List (Int×Int)}:∀ (l pre:List Int),routeG es pre l=true→(∀ e∈lnk l,e∈es)∧(∀ x l',l=x::l'→linkB es pre.getLast? x=true)
  | [],_,_=>⟨by simp [lnk],by intro x l' h;cases h⟩
  | x::l,pre,h=>by
    rw [routeG] at h
    simp only [Bool.and_eq_true] at h
    obtain ⟨ih1,ih2⟩:=route_links l (pre++[x]) h.2.2
    refine ⟨?_,fun y l' e=>by injection e with e1 e2;subst e1;exact h.2.1⟩
    intro e he
    cases l with
    | nil=>simp [lnk] at he
    | cons y l =>
      rw [show lnk (x::y::l)=(x,y)::lnk (y::l) from rfl] at he
      rcases List.mem_cons.1 he with rfl | he
      · have:=ih2 y l rfl
        rw [List.getLast?_concat] at this
        exact of_decide_eq_true (show decide ((x,y)∈es)=true from this)
      · exact ih1 e he
theorem links_in {f:FltM} (h:f.routes.all (routeB f.edges)=true) {k:Nat} (hk:k<f.routes.length):∀ e∈lnk f.routes[k],e∈f.edges:=by
  have h1:=List.all_eq_true.1 h _ (List.getElem_mem hk)
  unfold routeB at h1
  simp only [Bool.and_eq_true] at h1
  exact (route_links _ _ h1.2).1
theorem ltI_tot:∀ a b:Int,ltI a b=false→ltI b a=false→a=b:=fun a b h1 h2=>by simp only [ltI,decide_eq_false_iff_not] at *;omega
theorem used_of {f:FltM} {l':List Int} (h1:l'.Perm (rawU f)) (h2:Srt ltI l'):UsedP f (cptF l') :=
  ⟨(cptF_strict ltI_tot ordI _ _ rfl h2).imp fun h=>of_decide_eq_true h,fun x=>by rw [cptF_mem];exact h1.mem_iff⟩
theorem run_at {f:FltM} {n:Nat} (hn:n<f.nodes.length) (hr:0≤f.nodes[n].runs∧f.nodes[n].runs<f.nodes[n].vers.length):runI f n=f.nodes[n].vers[f.nodes[n].runs.toNat]'oM:=by
  unfold runI
  rw [Int.toNat_natCast,List.getElem?_eq_getElem hn]
  show (f.nodes[n].vers[f.nodes[n].runs.toNat]?).getD 0=_
  rw [List.getElem?_eq_getElem oM];rfl
section
variable {x:Cx} {E:Env} {d:Option Tmp} {ty:TypeId} {pos:String} {aft:Array Edge} {g:Option (Nat×Bool)} {c:Ctx} {G:Ghost} {H:List Res}
theorem Y_lookupK1 {α:Type} [DecidableEq α] {enc:α→Value} {K:Value→Prop} {t kt et:TypeId} {m kx:Operand} {b clk:Nat} {ks:List α} {a:α} {z:Value} (i:Nat) (hi:H[i]?=some (.obj b (.map (esOf enc ks).toArray clk))) (hu:x.P.underlying t=some (.map kt et)) (hk:KeyT x.P kt enc) (hz:∀ w,(zeroValue et).run x.P w=.ok z w) (hnd:ks.Nodup)
    (h1:ev E m=some (.map (some b))) (h2:ev E kx=some (enc a)) (ha:a∈ks) (kk:K (Vi (posK a ks:Int))):Y x (St c G H) ⟨d,.lookup t m kx false,ty,pos,aft,g⟩ E K:=by
  rcases hk.has a ks hnd with ⟨h3,h4⟩ | ⟨h3,j,h4⟩
  · exact absurd (posK_mem.2 ha) h3
  · refine Y_of (v:=Vi (posK a ks:Int)) (fun a' ha w hw=>?_) kk
    have hb:w.heap[b]?=some (.map (esOf enc ks).toArray clk):=hw.hold _ (List.mem_of_getElem? hi)
    simp only [execOp,ha.ev h1,ha.ev h2]
    simp [Instr.lookup,run_underlying hu,MapKept.run_getObj_map hb,hk.check,h4,Result.andThen]
end
theorem frun_ok {G:Ghost} {n:Nat} {Ap An Ae Ar:Option Addr} {cp cn ce cr:Nat} {f:FltM} (hf:FltC G Ap An Ae Ar cp cn ce cr f) (hn:n<f.nodes.length) (hr:0≤f.nodes[n].runs∧f.nodes[n].runs<f.nodes[n].vers.length) :
  FnOk prog 36 [(.agg (fltL Ap An Ae Ar cp cn ce cr f).toArray),Vi (n:Int)] G [] fun r _ H'=>H'=[]∧r=Vi (runI f n):=by
 show FnOk _ _ [.agg #[.slice Ap f.progs.length cp,.slice An f.nodes.length cn,.slice Ae f.edges.length ce,.slice Ar f.routes.length cr],Vi (n:Int)] _ _ _
 refine FnOk.of_T [(0,_),(1,_)] func36 rfl ntmps36 sM rfl fun w0 hs=>?_
 have hf0:=hf
 refine Zs<|O_s (Sb hs rfl fun b2 _ hs=>Za rfl<|Zq [1,2] rfl<|Zs<|Zy hs (Yf 1 rfl<|Zy hs (Yl 0 rfl<|Zm rfl<|Zy hs (Y_idxS hf.n n underlying34 sizeOf61 rfl rfl rfl hn fun p9 c9 hp9 hc9 hR9=>?_))))
 obtain ⟨u9,rfl,hv9⟩:=hR9
 obtain ⟨Av,cv,rfl,_⟩:=id hv9
 refine Zy hs (Y_ldAG (vs:=[.slice Av f.nodes[n].vers.length cv,Vi f.nodes[n].runs,Vi f.nodes[n].claims,.bool f.nodes[n].up]) isAgg61 sizeOf61 rfl hp9 rfl<|O_s (Sa hs zeroValue61 rfl fun b5 _ hs=>O_n (Sg hs rfl (rfl) fun _ hs=>Zq [5] rfl<|Zs<|Zy hs (Yf 0 rfl<|Zy hs (Yl 0 rfl<|Zy hs (Yf 1 rfl<|Zy hs (Yl 0 rfl<|Zy hs (Y_idxI hv9 f.nodes[n].runs.toNat underlying45 sizeOf3 rfl rfl oM oM fun p15 hp15=>?_))))))))
 rw [← run_at hn hr] at hp15
 refine Zy hs (Yg rfl (hp15)<|Za rfl<|Ze (Zk [4] rfl<|T_ret<|Zz results36 rfl ?_))
 exact ⟨_,[],hs.done,rfl,rfl⟩
theorem fval_ok {G:Ghost} {Ap An Ae Ar:Option Addr} {cp cn ce cr:Nat} {f:FltM} (hf:FltC G Ap An Ae Ar cp cn ce cr f) (hz:FSz f) (hP:∀ p∈f.progs,OkP p) (hT:Tab G) :
  FnOk prog 15 [(.agg (fltL Ap An Ae Ar cp cn ce cr f).toArray)] G [] fun r _ H'=>H'=[]∧r=Vi (checkE f):=by
 show FnOk _ _ [.agg #[.slice Ap f.progs.length cp,.slice An f.nodes.length cn,.slice Ae f.edges.length ce,.slice Ar f.routes.length cr]] _ _ _
 refine FnOk.of_T [(0,_)] func15 rfl ntmps15 sM rfl fun w0 hs=>?_
 have hf0:=hf
 have hT0:=hT
 refine Wt 2 [] hs rfl<|O_s (Sb hs rfl fun b1 _ hs=>Wp 5 [0,0] hs rfl ?_)
 cases hd7:decide (checkE f=0)
 ·
  refine O_s (Sc (fchk_F hf hz hP hT (of_decide_eq_false hd7)) hs rfl fun v1 G' H' _ hR hG7 hs=>?_)
  obtain ⟨rfl,rfl⟩:=hR
  replace hs:=hs.n rfl
  refine Wp 11 [0,0] hs rfl<|T_ret<|Zz results15 rfl ?_
  exact ⟨_,[],hs.done,rfl,rfl⟩
 refine O_s (Sc (fchk_T hf hz hP hT (of_decide_eq_true hd7)) hs rfl fun v2 G' H' _ hR hG7 hs=>?_)
 obtain ⟨bm,rfl,rfl⟩:=hR
 replace hs:=hs.n rfl
 refine Wp 11 [0,0] hs rfl<|T_ret<|Zz results15 rfl ?_
 exact ⟨_,[],hs.done,rfl,by rw [of_decide_eq_true hd7]<;>rfl⟩
theorem fprg_ok {G:Ghost} {n:Int} {Ap An Ae Ar:Option Addr} {cp cn ce cr:Nat} {f:FltM} (hf:FltC G Ap An Ae Ar cp cn ce cr f) (hz:FSz f) (hP:∀ p∈f.progs,OkP p) (hT:Tab G) (hC:checkE f=0) :
  FnOk prog 13 [(.agg (fltL Ap An Ae Ar cp cn ce cr f).toArray),Vi n] G [] fun r _ H'=>H'=[]∧r=if inB n f.nodes.length=true then .tuple #[Vi (runI f n),Vi 0] else .tuple #[Vi 0,Vi 3]:=by
 obtain ⟨hc0,hc1,hcn,hce,hcr⟩:=ce_inv hC
 show FnOk _ _ [.agg #[.slice Ap f.progs.length cp,.slice An f.nodes.length cn,.slice Ae f.edges.length ce,.slice Ar f.routes.length cr],Vi n] _ _ _
 refine FnOk.of_T [(0,_),(1,_)] func13 rfl ntmps13 sM rfl fun w0 hs=>?_
 have hf0:=hf
 have hT0:=hT
 refine Wt 2 [] hs rfl<|O_s (Sb hs rfl fun b2 _ hs=>Wp 7 [0,0] hs rfl<|O_s (Sc (fval_ok hf hz hP hT) hs rfl fun v1 G' H' _ hR hG8 hs=>?_))
 obtain ⟨rfl,rfl⟩:=hR
 replace hs:=hs.n rfl
 replace hf:=hf.mono hG8
 rw [hC]
 refine Wp 16 [0,0,1,0] hs rfl<|O_s (Sc (fin_ok) hs rfl fun v2 G' H' _ hR hG16 hs=>?_)
 obtain ⟨rfl,rfl⟩:=hR
 replace hs:=hs.n rfl
 replace hf:=hf.mono hG16
 cases h16:inB n (f.nodes.length:Int)
 ·
  refine Wp 8 [0,0] hs rfl<|T_ret ?_
  refine Rt_fin (vs:=[_,_]) results13 rfl ⟨rfl,rfl,trivial⟩ ?_
  try dsimp only [tup]
  exact ⟨_,[],hs.done,rfl,by rw [if_neg sM]⟩
 refine Wp 4 [0] hs rfl ?_
 obtain ⟨k,rfl⟩:∃ k:Nat,n=(k:Int):=Int.eq_ofNat_of_zero_le (inB_iff.1 h16).1
 have hk:k<f.nodes.length:=by have:=(inB_iff.1 h16).2;omega
 refine Wu 4 [0] hs rfl<|O_s (Sc (frun_ok hf hk (node_inv (List.all_eq_true.1 hcn _ (List.getElem_mem hk))).2.2.2.1) hs rfl fun v3 G' H' _ hR hG20 hs=>?_)
 obtain ⟨rfl,rfl⟩:=hR
 replace hs:=hs.n rfl
 refine Wp 3 [2,4,5] hs rfl<|T_ret ?_
 refine Rt_fin (vs:=[_,_]) results13 rfl ⟨rfl,rfl,trivial⟩ ?_
 try dsimp only [tup]
 exact ⟨_,[],hs.done,rfl,by rw [if_pos rfl]⟩
theorem fprgb_ok {G:Ghost} {n:Int} {Ap An Ae Ar:Option Addr} {cp cn ce cr:Nat} {f:FltM} (hf:FltC G Ap An Ae Ar cp cn ce cr f) (hz:FSz f) (hP:∀ p∈f.progs,OkP p) (hT:Tab G) (hC:¬ checkE f=0) :
  FnOk prog 13 [(.agg (fltL Ap An Ae Ar cp cn ce cr f).toArray),Vi n] G [] fun r _ H'=>H'=[]∧r=.tuple #[Vi 0,Vi (checkE f)]:=by
 show FnOk _ _ [.agg #[.slice Ap f.progs.length cp,.slice An f.nodes.length cn,.slice Ae f.edges.length ce,.slice Ar f.routes.length cr],Vi n] _ _ _
 refine FnOk.of_T [(0,_),(1,_)] func13 rfl ntmps13 sM rfl fun w0 hs=>?_
 have hf0:=hf
 have hT0:=hT
 refine Wt 2 [] hs rfl<|O_s (Sb hs rfl fun b2 _ hs=>Wp 7 [0,0] hs rfl<|O_s (Sc (fval_ok hf hz hP hT) hs rfl fun v1 G' H' _ hR hG8 hs=>?_))
 obtain ⟨rfl,rfl⟩:=hR
 replace hs:=hs.n rfl
 refine Wp 5 [0] hs rfl<|Zy hs (Y_cmpT rfl rfl rfl (hC)<|Wp 8 [0,0] hs rfl<|T_ret ?_)
 refine Rt_fin (vs:=[_,_]) results13 rfl ⟨rfl,rfl,trivial⟩ ?_
 try dsimp only [tup]
 exact ⟨_,[],hs.done,rfl,rfl⟩
theorem fuseb_ok {G:Ghost} {Ap An Ae Ar:Option Addr} {cp cn ce cr:Nat} {f:FltM} (hf:FltC G Ap An Ae Ar cp cn ce cr f) (hz:FSz f) (hP:∀ p∈f.progs,OkP p) (hT:Tab G) (hC:¬ checkE f=0) :
  FnOk prog 17 [(.agg (fltL Ap An Ae Ar cp cn ce cr f).toArray)] G [] fun r _ H'=>H'=[]∧r=.tuple #[Vn,Vi (checkE f)]:=by
 show FnOk _ _ [.agg #[.slice Ap f.progs.length cp,.slice An f.nodes.length cn,.slice Ae f.edges.length ce,.slice Ar f.routes.length cr]] _ _ _
 refine FnOk.of_T [(0,_)] func17 rfl ntmps17 sM rfl fun w0 hs=>?_
 have hf0:=hf
 have hT0:=hT
 refine Wt 2 [] hs rfl<|O_s (Sb hs rfl fun b1 _ hs=>Wp 6 [0,0] hs rfl<|O_s (Sc (fchk_F hf hz hP hT hC) hs rfl fun v1 G' H' _ hR hG12 hs=>?_))
 obtain ⟨rfl,rfl⟩:=hR
 replace hs:=hs.n rfl
 refine Wp 10 [0] hs rfl<|Zy hs (Y_cmpT rfl rfl rfl (hC)<|Wp 8 [0,0] hs rfl<|T_ret ?_)
 refine Rt_fin (vs:=[_,_]) results17 rfl ⟨rfl,rfl,trivial⟩ ?_
 try dsimp only [tup]
 exact ⟨_,[],hs.done,rfl,rfl⟩
theorem fuse_ok {G:Ghost} {Ap An Ae Ar:Option Addr} {cp cn ce cr:Nat} {f:FltM} (hf:FltC G Ap An Ae Ar cp cn ce cr f) (hz:FSz f) (hP:∀ p∈f.progs,OkP p) (hT:Tab G) (hC:checkE f=0) (h12:(rawL f).length≤12) :
  FnOk prog 17 [(.agg (fltL Ap An Ae Ar cp cn ce cr f).toArray)] G [] fun r G' H'=>H'=[]∧∃ v u,r=.tuple #[v,Vi 0]∧UsedP f u∧Ints G' v u∧u.length≤12:=by
 obtain ⟨hc0,hc1,hcn,hce,hcr⟩:=ce_inv hC
 have h12u:(rawU f).length≤12:=by unfold rawU;rw [List.length_map];exact h12
 show FnOk _ _ [.agg #[.slice Ap f.progs.length cp,.slice An f.nodes.length cn,.slice Ae f.edges.length ce,.slice Ar f.routes.length cr]] _ _ _
 refine FnOk.of_T [(0,_)] func17 rfl ntmps17 sM rfl fun w0 hs=>?_
 have hf0:=hf
 have hT0:=hT
 refine Wt 2 [] hs rfl<|O_s (Sb hs rfl fun b1 _ hs=>Wp 6 [0,0] hs rfl<|O_s (Sc (fchk_T hf hz hP hT hC) hs rfl fun v1 G' H' _ hR hG12 hs=>?_))
 obtain ⟨bm,rfl,rfl⟩:=hR
 replace hs:=hs.n rfl
 replace hf:=hf.mono hG12
 replace hT:=hT.mono hG12
 refine Wp 26 [0,0,0,3,1,0] hs rfl ?_
 have hs:=hs.nilRow 3 1
 have hs:=hs.f2.f2.f2
 refine Zl [4,6,19,20,21] (fun m E w=>∃ (k:Nat) (us:List Int) (v6:Value) (G2:Ghost),k≤f.routes.length∧rawU f=us++((f.routes.drop k).flatMap lnk).map (fun e=>(posK e f.edges:Int))∧m=f.routes.length-k∧E=⟨[],[(4,.map (some bm)),(6,v6),(19,.slice Ar f.routes.length cr),(20,Vi ((f.routes.length:Nat):Int)),(21,Vi (k:Int))]⟩∧St ⟨w0,G,feet []⟩ G2 [.row 3 1 v6 us.length (us.map (.int .i64)),.obj bm (.map (esOf eK f.edges).toArray f.edges.length),.blk b1 38 [.slice Ap f.progs.length cp,.slice An f.nodes.length cn,.slice Ae f.edges.length ce,.slice Ar f.routes.length cr]] w) rfl (⟨0,[],_,_,by omega,by unfold rawU rawL;simp,rfl,rfl,hs⟩) fun m E w hI=>?_
 obtain ⟨k,us,v6,G2,hk,hus,rfl,rfl,hs⟩:=hI
 have hf:=hf0.mono hs.le
 have hT:=hT0.mono hs.le
 refine Wt 2 [] hs rfl<|Zy hs (Yc rfl (fun h22=>?_) fun h22=>?_)
 ·
  refine Wp 8 [0] hs rfl<|Zy hs (Y_idxS hf.r k underlying36 sizeOf45 rfl rfl rfl oM fun p23 c23 hp23 hc23 hR23=>?_)
  obtain ⟨u23,rfl,hv23⟩:=hR23
  obtain ⟨Ar8,cr8,rfl,_⟩:=id hv23
  have hrl:=hz.r _ (List.getElem_mem (show k<f.routes.length by omega))
  refine Zy hs (Yg rfl (hp23 0 (.slice Ar8 f.routes[k].length cr8) rfl)<|Wp 6 [0,0] hs rfl ?_)
  have hs:=hs.f2.f2.f2
  refine Zl [4,6,8,9,19,20,21] (fun m E w=>∃ (j:Nat) (us:List Int) (v6:Value) (G2:Ghost),1≤j∧j≤f.routes[k].length+1∧rawU f=us++((lnk f.routes[k]).drop (j-1)++(f.routes.drop (k+1)).flatMap lnk).map (fun e=>(posK e f.edges:Int))∧Ints G2 (.slice Ar8 f.routes[k].length cr8) f.routes[k]∧m=f.routes[k].length-j∧E=⟨[],[(4,.map (some bm)),(6,v6),(8,.slice Ar8 f.routes[k].length cr8),(9,Vi (j:Int)),(19,.slice Ar f.routes.length cr),(20,Vi ((f.routes.length:Nat):Int)),(21,Vi (k:Int))]⟩∧St ⟨w0,G,feet []⟩ G2 [.row 3 1 v6 us.length (us.map (.int .i64)),.obj bm (.map (esOf eK f.edges).toArray f.edges.length),.blk b1 38 [.slice Ap f.progs.length cp,.slice An f.nodes.length cn,.slice Ae f.edges.length ce,.slice Ar f.routes.length cr]] w) rfl (⟨1,us,_,_,by omega,by omega,by rw [hus,List.drop_eq_getElem_cons oM];rfl,hv23,rfl,rfl,hs⟩) fun m E w hI=>?_
  obtain ⟨j,us,v6,G2,hj1,hj2,hus,hv23,rfl,rfl,hs⟩:=hI
  have hf:=hf0.mono hs.le
  have hT:=hT0.mono hs.le
  refine Wt 6 [] hs rfl<|Zy hs (Yc rfl (fun h28=>?_) fun h28=>?_)
  ·
   refine Wp 3 [0] hs rfl ?_
   have hlk:=lnk_get (r:=f.routes[k]'oM) hj1 oM
   have hin:((f.routes[k]'oM)[j-1]'oM,(f.routes[k]'oM)[j]'oM)∈f.edges:=links_in hcr (k:=k) oM _ (List.mem_of_mem_drop (i:=j-1) (by rw [hlk];exact List.mem_cons_self))
   have husl:us.length+1≤12:=by have h:=congrArg List.length hus;rw [hlk] at h;simp at h;omega
   refine Wu 2 [] hs rfl<|T_drawS [0,1,2,3,4,5,6,7,8,9,10,11,12,13] hs kR ?_
   replace hs:=hs.drew
   refine Xr [0,1,2,3] [] hs rfl<|Xt 4 hs rfl (Y_sub (c:=((j-1:Nat):Int)) rfl rfl oM oM<|Xt 5 hs rfl (Y_idxI hv23 (j-1) underlying45 sizeOf3 rfl rfl rfl oM fun p36 hp36 =>Xt 6 hs rfl (Yg rfl (hp36)<|Xr [7,8] [] hs rfl<|Xt 9 hs rfl (Y_idxI hv23 j underlying45 sizeOf3 rfl rfl rfl oM fun p40 hp40 =>Xt 10 hs rfl (Yg rfl (hp40)<|Xt 11 hs rfl (Y_buildA underlying31 sizeOf3 zeroValue31 rfl rfl (cs:=[_,_]) rfl<|Xt 12 hs rfl (Y_lookupK1 (a:=((f.routes[k][j-1]'oM),(f.routes[k][j]'oM))) 1 rfl underlying76 keyE zeroValue3 (edgesB_nodup hce) rfl rfl hin ?_)))))))
   have hle:=hs.le
   refine Xo 13 rfl (S_lit hs underlying45 sizeOf3 zeroValue3 rfl rfl dC dC rfl (cs:=[_]) rfl rfl fun v2 _ hs _=>?_)
   obtain ⟨_,hG44,hl44,hs⟩:=hs.fixRow noM
   replace hv23:=hv23.mono hG44
   refine A_moreS hs hle hG44 (List.Sublist.refl _)<|Xa 14 rfl (S_append hs underlying45 TI3 rfl dC rfl rfl (hl44) (one1 rfl) oM Z50 fun v3 _ hs =>Xa 15 rfl (S_y hs rfl (Yq rfl<|Xe (Zk [4,6,8,9,19,20,21] rfl<|Wu 2 [] hs rfl<|Zy hs (Ya (s:=((j+1:Nat):Int)) rfl<|Wp 1 [] hs rfl ?_)))))
   have hs:=hs.f2.f2.f2
   refine Zx [4,6,8,9,19,20,21] rfl ⟨j+1,us++[(posK ((f.routes[k]'oM)[j-1]'oM,(f.routes[k]'oM)[j]'oM) f.edges:Int)],_,_,by omega,by omega,by rw [hus,hlk];simp,hv23,rfl,rfl,castH hs sM⟩
  refine Wp 3 [0] hs rfl ?_
  refine Zr<|Zy hs (Ya (s:=((k+1:Nat):Int)) rfl<|Wp 1 [] hs rfl ?_)
  have hs:=hs.f2.f2.f2
  refine Zx [4,6,19,20,21] rfl ⟨k+1,us,_,_,by omega,by rw [hus,List.drop_eq_nil_of_le (by rw [lnk_len];omega),List.nil_append],rfl,rfl,hs⟩
 refine Wp 4 [0] hs rfl ?_
 obtain rfl:k=f.routes.length:=by omega
 rw [List.drop_length] at hus
 simp only [List.flatMap_nil,List.map_nil,List.append_nil] at hus
 refine Wu 3 [] hs rfl<|O_s (Sc (srtg_ok (by rw [← hus];exact h12u)) hs rfl fun v4 G' H' _ hR hG48 hs=>?_)
 obtain ⟨l',hpm,hsl,rfl⟩:=hR
 replace hs:=hs.n rfl
 refine Wp 4 [0] hs rfl<|O_s (Sc (cmpg_ok (by rw [hpm.length_eq,← hus];exact h12u)) hs rfl fun v5 G' H' _ hR hG50 hs=>?_)
 obtain rfl:=hR
 replace hs:=hs.n rfl
 refine Wp 3 [0] hs rfl<|T_ret ?_
 obtain ⟨_,hG_hfu,hfu,hs⟩:=hs.fixRow noM
 refine Rt_fin (vs:=[_,_]) results17 rfl ⟨rfl,rfl,trivial⟩ ?_
 try dsimp only [tup]
 exact ⟨_,[],hs.done,rfl,_,cptF l',rfl,used_of (by rw [hus];exact hpm) hsl,hfu,Nat.le_trans (cptF_sub l').length_le (by rw [hpm.length_eq,← hus];exact h12u)⟩
def prI (f:FltM) (x:Int):Int×Int:=match f.edges[x.toNat]? with | some e=>(runI f e.1,runI f e.2) | none=>(0,0)
def PairsP (f:FltM) (q:List (Int×Int)):Prop:=(q.Pairwise fun a b=>ltP a b=true)∧∀ p,p∈q↔∃ e∈rawL f,p=(runI f e.1,runI f e.2)
theorem edges_rng {n:Int}:∀ (l s:List (Int×Int)),edgesG n s l=true→∀ e∈l,(0≤e.1∧e.1<n)∧(0≤e.2∧e.2<n)∧¬ e.1=e.2
  | [],_,_,_,h=>by cases h
  | a::l,s,h,e,he=>by
    rw [edgesG] at h
    simp only [Bool.and_eq_true,Bool.not_eq_true',decide_eq_false_iff_not] at h
    rcases List.mem_cons.1 he with rfl | he
    · exact ⟨inB_iff.1 h.2.1,inB_iff.1 h.2.2.1,h.2.2.2.1⟩
    · exact edges_rng l _ h.2.2.2.2 e he
theorem edge_rng {n:Int} {l:List (Int×Int)} (h:edgesB n l=true) {e:Int×Int} (he:e∈l):(0≤e.1∧e.1<n)∧(0≤e.2∧e.2<n)∧¬ e.1=e.2:=edges_rng l [] h e he
theorem rawL_in {f:FltM} (h:f.routes.all (routeB f.edges)=true) {e:Int×Int} (he:e∈rawL f):e∈f.edges:=by
  obtain ⟨r,hr,he⟩:=List.mem_flatMap.1 he
  obtain ⟨k,hk,rfl⟩:=List.getElem_of_mem hr
  exact links_in h hk e he
theorem used_at {f:FltM} {u:List Int} (hu:UsedP f u) (h:f.routes.all (routeB f.edges)=true) {x:Int} (hx:x∈u):∃ i:Nat,∃ hi:i<f.edges.length,x=(i:Int)∧f.edges[i]∈rawL f:=by
  obtain ⟨e,he,rfl⟩:=List.mem_map.1 ((hu.2 x).1 hx)
  have h1:=posK_mem.2 (rawL_in h he)
  exact ⟨posK e f.edges,h1,rfl,by rw [posK_get h1];exact he⟩
theorem prI_at {f:FltM} {i:Nat} (h:i<f.edges.length):prI f i=(runI f f.edges[i].1,runI f f.edges[i].2):=by
  unfold prI;rw [Int.toNat_natCast,List.getElem?_eq_getElem h]
theorem ltP_tot:∀ a b:Int×Int,ltP a b=false→ltP b a=false→a=b:=fun a b h1 h2=>by
  rw [ltP_no] at h1 h2
  exact Prod.ext oM oM
theorem pairs_of {f:FltM} {u:List Int} {l':List (Int×Int)} (hu:UsedP f u) (h:f.routes.all (routeB f.edges)=true) (h1:l'.Perm (u.map (prI f))) (h2:Srt ltP l'):PairsP f (cptF l'):=by
  refine ⟨cptF_strict ltP_tot ordP _ _ rfl h2,fun p=>?_⟩
  rw [cptF_mem,h1.mem_iff,List.mem_map]
  constructor
  · rintro ⟨x,hx,rfl⟩
    obtain ⟨i,hi,rfl,he⟩:=used_at hu h hx
    exact ⟨_,he,prI_at hi⟩
  · rintro ⟨e,he,rfl⟩
    have h3:=posK_mem.2 (rawL_in h he)
    refine ⟨_,(hu.2 _).2 (List.mem_map.2 ⟨e,he,rfl⟩),?_⟩
    rw [prI_at h3,posK_get h3]
theorem prL_cs (q:List (Int×Int)):prL q=(q.map prC).flatten:=by unfold prL;rw [List.flatMap_def]
theorem eds_of {G:Ghost} {v:Value} {q:List (Int×Int)} (h:Sl G v 2 q.length (prL q)):Eds G v q:=by
  refine ⟨q.map prC,by rw [← prL_cs];exact h,?_,by intro c hc;obtain ⟨e,_,rfl⟩:=List.mem_map.1 hc;rfl⟩
  clear h
  induction q with
  | nil=>trivial
  | cons a q ih=>exact ⟨rfl,ih⟩
theorem fpaib_ok {G:Ghost} {Ap An Ae Ar:Option Addr} {cp cn ce cr:Nat} {f:FltM} (hf:FltC G Ap An Ae Ar cp cn ce cr f) (hz:FSz f) (hP:∀ p∈f.progs,OkP p) (hT:Tab G) (hC:¬ checkE f=0) :
  FnOk prog 19 [(.agg (fltL Ap An Ae Ar cp cn ce cr f).toArray)] G [] fun r _ H'=>H'=[]∧r=.tuple #[Vn,Vi (checkE f)]:=by
 show FnOk _ _ [.agg #[.slice Ap f.progs.length cp,.slice An f.nodes.length cn,.slice Ae f.edges.length ce,.slice Ar f.routes.length cr]] _ _ _
 refine FnOk.of_T [(0,_)] func19 rfl ntmps19 sM rfl fun w0 hs=>?_
 have hf0:=hf
 have hT0:=hT
 refine Wt 2 [] hs rfl<|O_s (Sb hs rfl fun b1 _ hs=>Wp 6 [0,0] hs rfl<|O_s (Sc (fuseb_ok hf hz hP hT hC) hs rfl fun v1 G' H' _ hR hG11 hs=>?_))
 obtain ⟨rfl,rfl⟩:=hR
 replace hs:=hs.n rfl
 refine Wp 10 [0] hs rfl<|Zy hs (Y_cmpT rfl rfl rfl (hC)<|Wp 8 [0,0] hs rfl<|T_ret ?_)
 refine Rt_fin (vs:=[_,_]) results19 rfl ⟨rfl,rfl,trivial⟩ ?_
 try dsimp only [tup]
 exact ⟨_,[],hs.done,rfl,rfl⟩
theorem fpai_ok {G:Ghost} {Ap An Ae Ar:Option Addr} {cp cn ce cr:Nat} {f:FltM} (hf:FltC G Ap An Ae Ar cp cn ce cr f) (hz:FSz f) (hP:∀ p∈f.progs,OkP p) (hT:Tab G) (hC:checkE f=0) (h12:(rawL f).length≤12) :
  FnOk prog 19 [(.agg (fltL Ap An Ae Ar cp cn ce cr f).toArray)] G [] fun r G' H'=>H'=[]∧∃ v q,r=.tuple #[v,Vi 0]∧PairsP f q∧Eds G' v q∧q.length≤12:=by
 obtain ⟨hc0,hc1,hcn,hce,hcr⟩:=ce_inv hC
 have hne:=hz.e
 show FnOk _ _ [.agg #[.slice Ap f.progs.length cp,.slice An f.nodes.length cn,.slice Ae f.edges.length ce,.slice Ar f.routes.length cr]] _ _ _
 refine FnOk.of_T [(0,_)] func19 rfl ntmps19 sM rfl fun w0 hs=>?_
 have hf0:=hf
 have hT0:=hT
 refine Wt 2 [] hs rfl<|O_s (Sb hs rfl fun b1 _ hs=>Wp 6 [0,0] hs rfl<|O_s (Sc (fuse_ok hf hz hP hT hC h12) hs rfl fun v1 G' H' _ hR hG11 hs=>?_))
 obtain ⟨rfl,vu,u,rfl,hu,huI,hul⟩:=hR
 replace hs:=hs.n rfl
 replace hf:=hf.mono hG11
 replace hT:=hT.mono hG11
 obtain ⟨Au,cu,rfl,_⟩:=id huI
 refine Wp 25 [0,0,0,0] hs rfl ?_
 have hs:=hs.nilRow 31 2
 have hs:=hs.f1.f1
 refine Zl [1,6,17,18,19] (fun m E w=>∃ (k:Nat) (ps:List (Int×Int)) (v6:Value) (G2:Ghost),k≤u.length∧u.map (prI f)=ps++(u.drop k).map (prI f)∧Ints G2 (.slice Au u.length cu) u∧m=u.length-k∧E=⟨[],[(1,Vp b1),(6,v6),(17,.slice Au u.length cu),(18,Vi ((u.length:Nat):Int)),(19,Vi (k:Int))]⟩∧St ⟨w0,G,feet []⟩ G2 [.row 31 2 v6 ps.length (prL ps),.blk b1 38 [.slice Ap f.progs.length cp,.slice An f.nodes.length cn,.slice Ae f.edges.length ce,.slice Ar f.routes.length cr]] w) rfl (⟨0,[],_,_,by omega,rfl,huI,rfl,rfl,hs⟩) fun m E w hI=>?_
 obtain ⟨k,ps,v6,G2,hk,hps,huI,rfl,rfl,hs⟩:=hI
 have hf:=hf0.mono hs.le
 have hT:=hT0.mono hs.le
 refine Wt 2 [] hs rfl<|Zy hs (Yc rfl (fun h20=>?_) fun h20=>?_)
 ·
  refine Wp 8 [0] hs rfl<|Zy hs (Y_idxI huI k underlying45 sizeOf3 rfl rfl rfl oM fun p21 hp21=>?_)
  obtain ⟨i,hiE,hie,_⟩:=used_at hu hcr (List.getElem_mem (show k<u.length by omega))
  rw [hie] at hp21
  obtain ⟨a,hae⟩:∃ a:Nat,f.edges[i].1=(a:Int):=Int.eq_ofNat_of_zero_le (edge_rng hce (List.getElem_mem hiE)).1.1
  obtain ⟨b,hbe⟩:∃ b:Nat,f.edges[i].2=(b:Int):=Int.eq_ofNat_of_zero_le (edge_rng hce (List.getElem_mem hiE)).2.1.1
  have hrg:=edge_rng hce (List.getElem_mem hiE)
  have haN:a<f.nodes.length:=by have:=hrg.1.2;omega
  have hbN:b<f.nodes.length:=by have:=hrg.2.1.2;omega
  have hpri:prI f u[k]=(runI f a,runI f b):=by rw [hie,prI_at hiE,hae,hbe]
  have hpsl:ps.length+1≤12:=by have h:=congrArg List.length hps;simp at h;omega
  refine Zy hs (Yg rfl (hp21)<|Wp 2 [0] hs rfl<|T_drawS [0,1,2,3,4,5,6,7,8,9,10,11,12,13,14,15,16,17,18] hs kR ?_)
  replace hs:=hs.drew
  refine Xr [0,1,2,3,4] [1,2,1] hs rfl<|Xt 5 hs rfl (Y_idxS hf.e i underlying35 sizeOf31 rfl rfl rfl hiE fun p28 c28 hp28 hc28 hR28=>?_)
  replace hR28:c28=[Vi f.edges[i].1,Vi f.edges[i].2]:=hR28
  subst hR28
  refine Xt 6 hs rfl (Y_idxArrP 0 underlying31 sizeOf3 rfl rfl rfl dC<|Xt 7 hs rfl (Yg rfl (hp28 0 (Vi (a:Int)) (by rw [← hae];rfl))<|Xr [9,10,11,12] [1,2,1] hs rfl<|Xt 13 hs rfl (Y_idxS hf.e i underlying35 sizeOf31 rfl rfl rfl hiE fun p36 c36 hp36 hc36 hR36=>?_)))
  replace hR36:c36=[Vi f.edges[i].1,Vi f.edges[i].2]:=hR36
  subst hR36
  refine Xt 14 hs rfl (Y_idxArrP 1 underlying31 sizeOf3 rfl rfl rfl dC<|Xt 15 hs rfl (Yg rfl (hp36 1 (Vi (b:Int)) (by rw [← hbe];rfl)) ?_))
  have hle:=hs.le
  refine Xo 8 rfl (Sc (frun_ok hf haN (node_inv (List.all_eq_true.1 hcn _ (List.getElem_mem haN))).2.2.2.1) hs rfl fun v2 G' H' _ hR hG31 hs=>?_)
  obtain ⟨rfl,rfl⟩:=hR
  replace hs:=hs.n rfl
  replace hf:=hf.mono hG31
  replace huI:=huI.mono hG31
  refine A_moreS hs hle hG31 (List.Sublist.refl _) ?_
  have hle:=hs.le
  refine Xo 16 rfl (Sc (frun_ok hf hbN (node_inv (List.all_eq_true.1 hcn _ (List.getElem_mem hbN))).2.2.2.1) hs rfl fun v3 G' H' _ hR hG39 hs=>?_)
  obtain ⟨rfl,rfl⟩:=hR
  replace hs:=hs.n rfl
  replace huI:=huI.mono hG39
  refine A_moreS hs hle hG39 (List.Sublist.refl _)<|Xt 17 hs rfl (Y_buildA underlying31 sizeOf3 zeroValue31 rfl rfl (cs:=[_,_]) rfl ?_)
  have hle:=hs.le
  refine Xo 18 rfl (S_lit hs underlying35 sizeOf31 zeroValue31 rfl rfl dC dC rfl (cs:=[_,_]) rfl rfl fun v4 _ hs _=>?_)
  obtain ⟨_,hG41,hl41,hs⟩:=hs.fixRow noM
  replace huI:=huI.mono hG41
  refine A_moreS hs hle hG41 (List.Sublist.refl _)<|Xa 19 rfl (S_append hs underlying35 TI31 rfl dC rfl rfl (hl41) ((fun y hy=>by simp only [List.mem_cons,List.not_mem_nil,or_false] at hy;rcases hy with rfl | rfl<;>rfl)) oM oM fun v5 _ hs =>Xa 20 rfl (S_y hs rfl (Yq rfl<|Xe (Zk [1,6,17,18,19] rfl ?_))))
  refine Zr<|Zy hs (Ya (s:=((k+1:Nat):Int)) rfl<|Wp 1 [] hs rfl ?_)
  have hs:=hs.f1.f1
  refine Zx [1,6,17,18,19] rfl ⟨k+1,ps++[(runI f a,runI f b)],_,_,by omega,by rw [hps,List.drop_eq_getElem_cons oM,List.map_cons,hpri];simp,huI,rfl,rfl,castH hs (by rw [prL_app];simp [prL,prC])⟩
 refine Wp 4 [0] hs rfl ?_
 obtain rfl:k=u.length:=by omega
 rw [List.drop_length] at hps
 simp only [List.map_nil,List.append_nil] at hps
 refine Wu 3 [] hs rfl<|O_s (Sc (srtgp_ok (by rw [← hps,List.length_map];exact hul)) hs rfl fun v6 G' H' _ hR hG45 hs=>?_)
 obtain ⟨l',hpm,hsl,rfl⟩:=hR
 replace hs:=hs.n rfl
 refine Wp 4 [0] hs rfl<|O_s (Sc (cmpgp_ok (by rw [hpm.length_eq,← hps,List.length_map];exact hul)) hs rfl fun v7 G' H' _ hR hG47 hs=>?_)
 obtain rfl:=hR
 replace hs:=hs.n rfl
 refine Wp 3 [0] hs rfl<|T_ret ?_
 obtain ⟨_,hG_hfq,hfq,hs⟩:=hs.fixRow noM
 refine Rt_fin (vs:=[_,_]) results19 rfl ⟨rfl,rfl,trivial⟩ ?_
 try dsimp only [tup]
 exact ⟨_,[],hs.done,rfl,_,cptF l',rfl,pairs_of hu hcr (by rw [hps];exact hpm) hsl,eds_of hfq,Nat.le_trans (cptF_sub l').length_le (by rw [hpm.length_eq,← hps,List.length_map];exact hul)⟩
theorem cntP_set {α:Type} {p:α→Bool}:∀ {l:List α} {i:Nat} {a:α} (h:i<l.length),p l[i]=true→p a=false→(l.set i a).countP p+1=l.countP p
  | [],_,_,h,_,_=>absurd h (Nat.not_lt_zero _)
  | b::l,0,a,_,h1,h2=>by
    rw [List.getElem_cons_zero] at h1
    rw [List.set_cons_zero,List.countP_cons,List.countP_cons,h1,h2];simp
  | b::l,i+1,a,h,h1,h2=>by
    rw [List.getElem_cons_succ] at h1
    have:=cntP_set (l:=l) (i:=i) (a:=a) Z49 h1 h2
    rw [List.set_cons_succ,List.countP_cons,List.countP_cons];omega
theorem getD_in {α:Type} {l:List α} {i:Nat} {a:α} (h:i<l.length):l.getD i a=l[i]:=by rw [List.getD_eq_getElem?_getD,List.getElem?_eq_getElem h];rfl
theorem row_getD {d:List Int} {x:Nat} (h:x<d.length):(d.map (Value.int .i64))[x]?=some (Vi (d.getD x (-1))):=by
  rw [List.getElem?_map,List.getElem?_eq_getElem h,getD_in h];rfl
theorem row_boolD {d:List Bool} {x:Nat} (h:x<d.length):(d.map boolV)[x]?=some (.bool (d.getD x false)):=by
  rw [List.getElem?_map,List.getElem?_eq_getElem h,getD_in h];rfl
structure Bfs (n:Nat) (d:List Int) (l:List Nat):Prop where
  dl:d.length=n
  cnt:l.length+d.countP (fun z=>decide (z<0))=n
  rng:∀ x∈l,x<n
  mem:∀ x,x<n→(0≤d.getD x (-1)↔x∈l)
  le:∀ k,(h:k<l.length)→d.getD l[k] (-1)≤k
theorem Bfs.len {n:Nat} {d:List Int} {l:List Nat} (h:Bfs n d l):l.length≤n:=by have:=h.cnt;omega
theorem getD_set {α:Type} {l:List α} {i j:Nat} {a z:α} (h:i<l.length):(l.set i a).getD j z=if i=j then a else l.getD j z:=by
  rw [List.getD_eq_getElem?_getD,List.getD_eq_getElem?_getD,List.getElem?_set]
  split
  · first|rfl|(rw [if_pos h];rfl)
  · rfl
theorem Bfs.start {n x:Nat} (h:x<n):Bfs n ((List.replicate n (-1)).set x 0) [x]:=by
  have hl:x<(List.replicate n (-1:Int)).length:=by rw [List.length_replicate];exact h
  refine ⟨by simp,?_,by intro y hy;rw [List.mem_singleton.1 hy];exact h,?_,?_⟩
  · have h1:=cntP_set (p:=fun z:Int=>decide (z<0)) (l:=List.replicate n (-1)) (i:=x) (a:=0) hl sM sM
    rw [List.countP_replicate] at h1
    simp at h1 ⊢;omega
  · intro y hy
    rw [getD_set hl]
    by_cases e:x=y
    · rw [if_pos e,e];simp
    · rw [if_neg e,getD_in (by simpa using hy),List.getElem_replicate];simp;exact fun h=>e h.symm
  · intro k hk
    have:k=0:=by simpa using hk
    subst this
    rw [List.getElem_cons_zero,getD_set hl,if_pos rfl];decide
theorem Bfs.push {n y k:Nat} {d:List Int} {l:List Nat} (c:Bfs n d l) (hy:y<n) (hn:d.getD y (-1)<0) (hk:k<l.length):Bfs n (d.set y (d.getD l[k] (-1)+1)) (l++[y]):=by
  have hyl:y<d.length:=by rw [c.dl];exact hy
  have h0:0≤d.getD l[k] (-1):=(c.mem _ (c.rng _ (List.getElem_mem hk))).2 (List.getElem_mem hk)
  have hny:¬ y∈l:=fun h=>by have:=(c.mem y hy).2 h;omega
  refine ⟨by rw [List.length_set];exact c.dl,?_,?_,?_,?_⟩
  · have h1:=cntP_set (p:=fun z:Int=>decide (z<0)) (l:=d) (i:=y) (a:=d.getD l[k] (-1)+1) hyl (by rw [getD_in hyl] at hn;simpa using hn) (by simp only [decide_eq_false_iff_not];omega)
    have:=c.cnt
    rw [List.length_append,List.length_singleton];omega
  · intro x hx
    rcases List.mem_append.1 hx with hx | hx
    · exact c.rng x hx
    · rw [List.mem_singleton.1 hx];exact hy
  · intro x hx
    rw [getD_set hyl,List.mem_append,List.mem_singleton]
    by_cases e:y=x
    · rw [if_pos e];exact ⟨fun _=>.inr e.symm,fun _=>by omega⟩
    · rw [if_neg e,c.mem x hx];exact ⟨.inl,fun h=>h.elim id fun h=>absurd h.symm e⟩
  · intro j hj
    rw [getD_set hyl]
    by_cases hj2:j<l.length
    · rw [List.getElem_append_left hj2,if_neg (fun e=>hny (by rw [e];exact List.getElem_mem hj2))]
      exact c.le j hj2
    · have:j=l.length:=by simp at hj;omega
      subst this
      rw [List.getElem_append_right (Nat.le_refl _),if_pos sM]
      have:=c.le k hk;omega
def Clo (on:List Bool) (l:List Nat) (r:List Nat):Prop:=∀ y∈r,y∈l∨on.getD y false=true
theorem Clo.more {on:List Bool} {l r:List Nat} {y:Nat} (h:Clo on l r):Clo on (l++[y]) r:=fun z hz=>(h z hz).imp_left (List.mem_append_left _)
structure DistP (next:List (List Nat)) (on:List Bool) (n x:Nat) (d:List Int):Prop where
  len:d.length=n
  start:0≤d.getD x (-1)
  le:∀ y,y<n→d.getD y (-1)<n
  clo:∀ y,y<n→0≤d.getD y (-1)→∀ z∈next.getD y [],0≤d.getD z (-1)∨on.getD z false=true
theorem Bfs.fin {next:List (List Nat)} {on:List Bool} {n x:Nat} {d:List Int} {l:List Nat} (c:Bfs n d l) (hx:x∈l) (hn:∀ r∈next,∀ y∈r,y<n) (hnl:next.length=n) (h:∀ j,(hj:j<l.length)→Clo on l (next.getD l[j] [])):DistP next on n x d:=by
  refine ⟨c.dl,(c.mem x (c.rng x hx)).2 hx,?_,?_⟩
  · intro y hy
    rcases Int.lt_or_le (d.getD y (-1)) 0 with h0 | h0
    · omega
    · obtain ⟨k,hk,rfl⟩:=List.getElem_of_mem ((c.mem y hy).1 h0)
      have h1:=c.le k hk
      have h2:=c.len
      omega
  · intro y hy h0 z hz
    obtain ⟨k,hk,rfl⟩:=List.getElem_of_mem ((c.mem y hy).1 h0)
    rcases h k hk z hz with h1 | h1
    · exact .inl ((c.mem z (c.rng z h1)).2 h1)
    · exact .inr h1
def negs (k n:Nat):List Int:=List.replicate k (-1)++List.replicate (n-k) 0
theorem negs_step {k n:Nat} (h:k<n):(negs k n).set k (-1)=negs (k+1) n:=by
  unfold negs
  rw [List.set_append_right _ _ sM,List.length_replicate,Nat.sub_self,show n-k=(n-(k+1))+1 from by omega,List.replicate_succ,List.set_cons_zero,List.replicate_succ',List.append_assoc]
  rfl
theorem negs_full {n:Nat}:negs n n=List.replicate n (-1):=by unfold negs;simp
theorem row_nat' {l:List Nat} {i z:Nat} (h:l[i]?=some z):(l.map natV)[i]?=some (natV z):=by rw [List.getElem?_map,h];rfl
theorem Bfs.at_ {n:Nat} {d:List Int} {l:List Nat} (c:Bfs n d l) {i z:Nat} (h:l[i]?=some z):0≤d.getD z (-1)∧d.getD z (-1)≤i∧i<l.length:=by
  obtain ⟨hi,rfl⟩:=List.getElem?_eq_some_iff.1 h
  exact ⟨(c.mem _ (c.rng _ (List.getElem_mem hi))).2 (List.getElem_mem hi),c.le i hi,hi⟩
theorem Bfs.pushA {n y i z:Nat} {d:List Int} {l:List Nat} (c:Bfs n d l) (hy:y<n) (hn:d.getD y (-1)<0) (h:l[i]?=some z):Bfs n (d.set y (d.getD z (-1)+1)) (l++[y]):=by
  obtain ⟨hi,rfl⟩:=List.getElem?_eq_some_iff.1 h
  exact c.push hy hn hi
def CloI (next:List (List Nat)) (on:List Bool) (l:List Nat) (i:Nat):Prop:=∀ j z,j<i→l[j]?=some z→Clo on l (next.getD z [])
theorem CloI.next {next:List (List Nat)} {on:List Bool} {l:List Nat} {i z:Nat} (h:CloI next on l i) (hi:l[i]?=some z) (hc:Clo on l (next.getD z [])):CloI next on l (i+1):=fun j z' hj hz=>by
  rcases Nat.lt_or_ge j i with h1 | h1
  · exact h j z' h1 hz
  · obtain rfl:j=i:=by omega
    rw [hi] at hz
    injection hz with hz
    rw [← hz];exact hc
theorem CloI.more {next:List (List Nat)} {on:List Bool} {l:List Nat} {i y:Nat} (h:CloI next on l i) (hi:i<l.length):CloI next on (l++[y]) i:=fun j z hj hz=>by
  rw [List.getElem?_append_left oM] at hz
  exact (h j z hj hz).more
theorem clo_step {on:List Bool} {l r:List Nat} {j y:Nat} (h:j<r.length) (hy:y=r[j]) (hc:Clo on l (r.take j)) (hn:y∈l∨on.getD y false=true):Clo on l (r.take (j+1)):=by
  rw [take_succ' h]
  intro z hz
  rcases List.mem_append.1 hz with hz | hz
  · exact hc z hz
  · rw [List.mem_singleton.1 hz,← hy];exact hn
theorem fdst_ok {G:Ghost} {bo n x:Nat} {v:Value} {next:List (List Nat)} {on:List Bool} (hN:LN G v next) (hnl:next.length=n) (hol:on.length=n) (hn:n≤1000) (hnx:∀ r∈next,(∀ y∈r,y<n)∧r.length≤1000) (hx:x<n) :
  FnOk prog 53 [v,Vs bo n n,Vi (x:Int)] G [.row 4 1 (Vs bo n n) n (on.map boolV)] fun r G' H'=>∃ d,DistP next on n x d∧Ints G' r d∧H'=[.row 4 1 (Vs bo n n) n (on.map boolV)]:=by
 obtain ⟨An,cn,rfl⟩:=LstR.slice hN
 rw [hnl] at hN ⊢
 show FnOk _ _ [.slice An n cn,Vs bo n n,Vi (x:Int)] _ _ _
 refine FnOk.of_T [(0,_),(1,_),(2,_)] func53 rfl ntmps53 sM rfl fun w0 hs=>?_
 have hN0:=hN
 refine Wt 8 [0] hs rfl<|O_s (S_make (n:=n) (m:=n) hs underlying45 TI3 rfl rfl rfl oM oM oM fun b15 _ hs =>Wp 9 [0,0] hs rfl ?_)
 have hs:=hs.f1.f1
 refine Zl [0,1,2,7,17,18] (fun m E w=>∃ (k:Nat) (G2:Ghost),k≤n∧m=n-k∧E=⟨[],[(0,.slice An n cn),(1,Vs bo n n),(2,Vi (x:Int)),(7,Vs b15 n n),(17,Vi ((n:Nat):Int)),(18,Vi (k:Int))]⟩∧St ⟨w0,G,feet [.row 4 1 (Vs bo n n) n (on.map boolV)]⟩ G2 [.row 3 1 (Vs b15 n n) n ((negs k n).map (.int .i64)),.row 4 1 (Vs bo n n) n (on.map boolV)] w) rfl (⟨0,_,by omega,rfl,rfl,castH hs (by unfold negs;simp)⟩) fun m E w hI=>?_
 obtain ⟨k,G2,hk,rfl,rfl,hs⟩:=hI
 have hN:=hN0.mono hs.le
 refine Wt 2 [] hs rfl<|Zy hs (Yc rfl (fun h19=>?_) fun h19=>?_)
 ·
  refine Wp 14 [0,0] hs rfl<|Zy hs (Y_idxRow (k) underlying45 sizeOf3 rfl rfl rfl oM<|O_n (S_stRow hs sizeOf3 rfl rfl rfl oM fun _ hs =>Wp 2 [0] hs rfl<|Zy hs (Ya (s:=((k+1:Nat):Int)) rfl<|Wp 1 [] hs rfl ?_)))
  have hs:=hs.f1.f1
  refine Zx [0,1,2,7,17,18] rfl ⟨k+1,_,by omega,rfl,rfl,castH hs (by rw [← negs_step oM,List.map_set])⟩
 refine Wp 4 [0] hs rfl ?_
 have hkn:k=n:=by omega
 rw [hkn,negs_full] at hs
 refine Wu 4 [] hs rfl<|Zy hs (Y_idxRow (x) underlying45 sizeOf3 rfl rfl rfl oM<|O_n (S_stRow hs sizeOf3 rfl rfl rfl oM fun _ hs =>Wp 4 [0] hs rfl<|O_s (S_lit hs underlying45 sizeOf3 zeroValue3 rfl rfl dC dC rfl (cs:=[_]) rfl rfl fun v1 _ hs _ =>Wp 7 [0,0] hs rfl ?_)))
 have hs:=hs.f2.f1.f2
 refine Zl [0,1,7,9,10] (fun m E w=>∃ (i:Nat) (d:List Int) (l:List Nat) (v9:Value) (G2:Ghost),Bfs n d l∧x∈l∧i≤l.length∧CloI next on l i∧LN G2 (.slice An n cn) next∧m=n-i∧E=⟨[],[(0,.slice An n cn),(1,Vs bo n n),(7,Vs b15 n n),(9,v9),(10,Vi (i:Int))]⟩∧St ⟨w0,G,feet [.row 4 1 (Vs bo n n) n (on.map boolV)]⟩ G2 [.row 3 1 (Vs b15 n n) n (d.map (.int .i64)),.row 3 1 v9 l.length (l.map natV),.row 4 1 (Vs bo n n) n (on.map boolV)] w) rfl (⟨0,_,[x],_,_,Bfs.start hx,List.mem_singleton.2 rfl,by simp,fun j z h=>absurd h (Nat.not_lt_zero _),hN,rfl,rfl,castH hs (by rw [List.map_set];simp [natV])⟩) fun m E w hI=>?_
 obtain ⟨i,d,l,v9,G2,hb,hxl,hil0,hcl,hN,rfl,rfl,hs⟩:=hI
 have hN:=hN0.mono hs.le
 refine Wt 5 [] hs rfl<|Zy hs (Y_lenOwn 1 rfl underlying45 rfl hs<|Zy hs (Yc rfl (fun h33=>?_) fun h33=>?_))
 ·
  refine Wp 10 [0] hs rfl ?_
  obtain ⟨xi,hxe⟩:∃ z,z=l[i]'oM:=⟨_,rfl⟩
  have hli:l[i]?=some xi:=by rw [hxe,List.getElem?_eq_getElem]
  have hxr:=row_nat' hli
  have hxn:xi<n:=by rw [hxe];exact hb.rng _ (List.getElem_mem _)
  have hln:xi<next.length:=by omega
  have hil:i<n:=by have:=hb.len;omega
  refine Zy hs (Y_idxOwn (j:=((i:Nat):Int)) (i) 1 rfl underlying45 sizeOf3 rfl rfl rfl oM (u:=(natV xi)) (hxr) hs fun p39 hp39 =>Zy hs (Y_ldOwn isAgg3 rfl hp39<|Zy hs (Y_idxS hN xi underlying36 sizeOf45 rfl rfl rfl hln fun p41 c41 hp41 hc41 hR41=>?_)))
  obtain ⟨rr,hre⟩:∃ r,r=next[xi]'hln:=⟨_,rfl⟩
  rw [← hre] at hR41
  have hrb:=hnx rr Z32
  obtain ⟨u41,rfl,hrr⟩:=hR41
  obtain ⟨Ar,cr,rfl,_⟩:=id hrr
  have hrg:next.getD xi []=rr:=by rw [getD_in hln,hre]
  refine Zy hs (Yg rfl (hp41 0 (.slice Ar rr.length cr) rfl)<|Wp 3 [0] hs rfl ?_)
  have hs:=hs.f2.f2.f2
  refine Zl [0,1,7,9,10,42,43,44] (fun m E w=>∃ (j:Nat) (d:List Int) (l:List Nat) (v9:Value) (G2:Ghost),Bfs n d l∧x∈l∧l[i]?=some xi∧i<l.length∧CloI next on l i∧Clo on l (rr.take j)∧j≤rr.length∧Nats G2 (.slice Ar rr.length cr) rr∧LN G2 (.slice An n cn) next∧m=rr.length-j∧E=⟨[],[(0,.slice An n cn),(1,Vs bo n n),(7,Vs b15 n n),(9,v9),(10,Vi (i:Int)),(42,.slice Ar rr.length cr),(43,Vi ((rr.length:Nat):Int)),(44,Vi (j:Int))]⟩∧St ⟨w0,G,feet [.row 4 1 (Vs bo n n) n (on.map boolV)]⟩ G2 [.row 3 1 (Vs b15 n n) n (d.map (.int .i64)),.row 3 1 v9 l.length (l.map natV),.row 4 1 (Vs bo n n) n (on.map boolV)] w) rfl (⟨0,d,l,_,_,hb,hxl,hli,by omega,hcl,(fun y hy=>by rw [List.take_zero] at hy;cases hy),by omega,hrr,hN,rfl,rfl,hs⟩) fun m E w hI=>?_
  obtain ⟨j,d,l,v9,G2,hb,hxl,hli,hil2,hcl,hct,hj,hrr,hN,rfl,rfl,hs⟩:=hI
  have hN:=hN0.mono hs.le
  refine Wt 2 [] hs rfl<|Zy hs (Yc rfl (fun h45=>?_) fun h45=>?_)
  ·
   refine Wp 8 [0] hs rfl<|Zy hs (Y_idxN hrr j underlying45 sizeOf3 rfl rfl rfl oM fun p46 hp46=>?_)
   obtain ⟨y,hye⟩:∃ y,y=rr[j]'oM:=⟨_,rfl⟩
   rw [← hye] at hp46
   have hyn:y<n:=hrb.1 y Z34
   refine Zy hs (Yg rfl (hp46)<|Wp 6 [0] hs rfl<|Zy hs (Y_idxRow (y) underlying45 sizeOf3 rfl rfl rfl oM<|Zy hs (Y_ldRow 0 rfl isAgg3 rfl (row_getD (by rw [hb.dl];exact hyn))<|Zy hs (Yc rfl (fun h52=>?_) fun h52=>?_))))
   ·
    refine Wp 3 [] hs rfl<|Zg hs rfl (Y_idxRow (y) underlying94 sizeOf4 rfl rfl rfl oM ?_)
    obtain ⟨q57,hq57⟩:∃ q,q=on.getD y false:=⟨_,rfl⟩
    refine Zg hs rfl (Y_ldRow 2 rfl isAgg4 rfl (show (on.map boolV)[y]?=some (.bool q57) from by rw [hq57];exact row_boolD oM) ?_)
    cases q57
    ·
     refine Wp 11 [0] hs rfl ?_
     have hdx:=hb.at_ hli
     have hbl:=hb.len
     refine Zy hs (Y_idxOwn (j:=((i:Nat):Int)) (i) 1 rfl underlying45 sizeOf3 rfl rfl rfl oM (u:=(natV xi)) (row_nat' hli) hs fun p65 hp65 =>Zy hs (Y_ldOwn isAgg3 rfl hp65<|Zy hs (Y_idxRow (xi) underlying45 sizeOf3 rfl rfl rfl (hxn)<|Zy hs (Y_ldRow 0 rfl isAgg3 rfl (row_getD (by rw [hb.dl];exact hxn))<|Zy hs (Ya (s:=(d.getD xi (-1)+1)) rfl<|Zy hs (Y_idxRow (y) underlying45 sizeOf3 rfl rfl rfl oM<|O_n (S_stRow hs sizeOf3 rfl rfl rfl oM fun _ hs =>Wp 4 [9,0,1,7,9,10,12,42,43,44] hs rfl<|O_s (S_lit hs underlying45 sizeOf3 zeroValue3 rfl rfl dC dC rfl (cs:=[_]) rfl rfl fun v2 _ hs _=>?_))))))))
     obtain ⟨_,hG73,hl73,hs⟩:=hs.fixRow (noMr 2 hs rfl)
     replace hN:=hN.mono hG73
     replace hrr:=hrr.mono hG73
     refine O_s (S_append hs.f1 underlying45 TI3 rfl dC rfl rfl (hl73) (one1 rfl) (by have:=hb.len;omega) (by have:=hb.len;simp;omega) fun v3 _ hs =>Wp 3 [0] hs rfl<|Zy hs (Ya (s:=((j+1:Nat):Int)) rfl<|Wp 1 [] hs rfl ?_))
     have hs:=hs.f2.f1.f2
     refine Zx [0,1,7,9,10,42,43,44] rfl ⟨j+1,d.set y (d.getD xi (-1)+1),l++[y],_,_,hb.pushA hyn h52 hli,List.mem_append_left _ hxl,by rw [List.getElem?_append_left hil2];exact hli,by simp;omega,hcl.more hil2,clo_step oM hye hct.more (.inl sM),by omega,hrr,hN,rfl,rfl,castH hs (by simp [List.map_set,natV])⟩
    refine Wp 6 [0] hs rfl<|Zy hs (Ya (s:=((j+1:Nat):Int)) rfl<|Wp 1 [] hs rfl ?_)
    have hs:=hs.f2.f2.f2
    refine Zx [0,1,7,9,10,42,43,44] rfl ⟨j+1,d,l,_,_,hb,hxl,hli,hil2,hcl,clo_step oM hye hct (.inr hq57.symm),by omega,hrr,hN,rfl,rfl,hs⟩
   refine Wp 11 [0] hs rfl<|Zy hs (Ya (s:=((j+1:Nat):Int)) rfl<|Wp 1 [] hs rfl ?_)
   have hs:=hs.f2.f2.f2
   refine Zx [0,1,7,9,10,42,43,44] rfl ⟨j+1,d,l,_,_,hb,hxl,hli,hil2,hcl,clo_step oM hye hct (.inl ((hb.mem y hyn).1 oM)),by omega,hrr,hN,rfl,rfl,hs⟩
  refine Wp 4 [0] hs rfl<|Wu 2 [] hs rfl<|Zy hs (Ya (s:=((i+1:Nat):Int)) rfl<|Wp 1 [] hs rfl ?_)
  have hs:=hs.f2.f2.f2
  refine Zx [0,1,7,9,10] rfl ⟨i+1,d,l,_,_,hb,hxl,by omega,hcl.next hli (by rw [hrg];have h:=hct;rwa [List.take_of_length_le oM] at h),hN,rfl,rfl,hs⟩
 refine Wp 3 [0] hs rfl<|Wu 5 [0] hs rfl<|T_ret ?_
 have hs:=hs.f2.f1
 obtain ⟨_,hG_hfd,hfd,hs⟩:=hs.fixRow (noMr 0 hs rfl)
 refine Zz results53 rfl ?_
 have hie:i=l.length:=by omega
 exact ⟨_,_,hs.weak hs.le (Ghost.le.refl _) (List.sublist_append_left [_] _),d,hb.fin hxl (fun r hr=>(hnx r hr).1) hnl (fun j hj=>hcl j l[j] oM (by rw [List.getElem?_eq_getElem])),(by show Sl _ _ 1 d.length _;rw [hb.dl];exact hfd),rfl⟩
def dfsF (next:List (List Nat)) (to:Nat):Nat→List Nat→Nat→List Bool→List (List Nat)→List (List Nat)
  | 0,_,_,_,out=>out
  | f+1,path,last,on,out=>if last=to then out++[path] else
    (next.getD last []).foldl (fun out y=>if on.getD y false=true∨100<out.length then out else dfsF next to f (path++[y]) y (on.set y true) out) out
def stepD (next:List (List Nat)) (to f:Nat) (path:List Nat) (on:List Bool) (out:List (List Nat)) (y:Nat):List (List Nat):=if on.getD y false=true∨100<out.length then out else dfsF next to f (path++[y]) y (on.set y true) out
theorem dfs_succ {next:List (List Nat)} {to f last:Nat} {path:List Nat} {on:List Bool} {out:List (List Nat)}:dfsF next to (f+1) path last on out=if last=to then out++[path] else (next.getD last []).foldl (stepD next to f path on) out:=rfl
theorem stepD_full {next:List (List Nat)} {to f:Nat} {path:List Nat} {on:List Bool} {out:List (List Nat)} (h:100<out.length) (l:List Nat):l.foldl (stepD next to f path on) out=out:=by
  induction l with
  | nil=>rfl
  | cons y l ih=>rw [List.foldl_cons,show stepD next to f path on out y=out from if_pos (.inr h),ih]
theorem dfs_prune {next:List (List Nat)} {to n:Nat} {d:List Int} {x:Nat} (hn:∀ r∈next,∀ y∈r,y<n) (hto:d.getD to (-1)<0) (on:List Bool) (hd:DistP next on n x d) :
    ∀ (f:Nat) (path:List Nat) (last:Nat) (on':List Bool) (out:List (List Nat)),last<n→0≤d.getD last (-1)→(∀ y,on.getD y false=true→on'.getD y false=true)→dfsF next to f path last on' out=out
  | 0,_,_,_,_,_,_,_=>rfl
  | f+1,path,last,on',out,hl,h0,hon=>by
    rw [dfs_succ,if_neg (fun e=>by rw [e] at h0;omega)]
    have key:∀ l:List Nat,(∀ y∈l,y∈next.getD last [])→∀ out,l.foldl (stepD next to f path on') out=out:=by
      intro l
      induction l with
      | nil=>intro _ _;rfl
      | cons y l ih =>
        intro hy out
        rw [List.foldl_cons]
        have hs:stepD next to f path on' out y=out:=by
          unfold stepD
          split
          · rfl
          · rename_i hne
            have hyn:y∈next.getD last []:=hy y List.mem_cons_self
            have hylt:y<n:=by
              rcases Nat.lt_or_ge last next.length with h | h
              · rw [getD_in h] at hyn;exact hn _ (List.getElem_mem h) y hyn
              · rw [List.getD_eq_getElem?_getD,List.getElem?_eq_none h] at hyn;cases hyn
            rcases hd.clo last hl h0 y hyn with h1 | h1
            · refine dfs_prune hn hto on hd f _ y _ out hylt h1 fun z hz=>?_
              by_cases e:y<on'.length
              · rw [getD_set e];split
                · rfl
                · exact hon z hz
              · rw [List.set_eq_of_length_le oM];exact hon z hz
            · exact absurd (.inl (hon y h1)) hne
        rw [hs];exact ih (fun z hz=>hy z (List.mem_cons_of_mem _ hz)) out
    exact key _ (fun _ h=>h) out
def offs (on:List Bool):Nat:=on.countP fun b=>!b
theorem offs_set {on:List Bool} {y:Nat} (h:y<on.length) (h0:on.getD y false=false):offs (on.set y true)+1=offs on:=by
  unfold offs
  exact cntP_set h (by rw [getD_in h] at h0;rw [h0];rfl) rfl
theorem set_back {on:List Bool} {y:Nat} (h:y<on.length) (h0:on.getD y false=false):(on.set y true).set y false=on:=by
  rw [List.set_set]
  apply List.ext_getElem
  · simp
  · intro i h1 h2
    rw [List.getElem_set]
    split
    · rename_i e;subst e;rw [getD_in h] at h0;exact h0.symm
    · rfl
theorem dfs_le {next:List (List Nat)} {to:Nat}:∀ (f:Nat) (path:List Nat) (last:Nat) (on:List Bool) (out:List (List Nat)),out.length≤100→(dfsF next to f path last on out).length≤101
  | 0,_,_,_,out,h=>by rw [dfsF];omega
  | f+1,path,last,on,out,h=>by
    rw [dfs_succ]
    split
    · simp;omega
    · have key:∀ (l:List Nat) (out:List (List Nat)),out.length≤101→(l.foldl (stepD next to f path on) out).length≤101:=by
        intro l
        induction l with
        | nil=>intro out h;exact h
        | cons y l ih =>
          intro out h
          rw [List.foldl_cons]
          refine ih _ ?_
          unfold stepD
          split
          · exact h
          · rename_i hn
            exact dfs_le f _ _ _ _ oM
      exact key _ _ oM
theorem stepD_skip {next:List (List Nat)} {to f:Nat} {path:List Nat} {on:List Bool} {out:List (List Nat)} {y:Nat} (h:on.getD y false=true):stepD next to f path on out y=out:=if_pos (.inl h)
theorem stepD_go {next:List (List Nat)} {to f:Nat} {path:List Nat} {on:List Bool} {out:List (List Nat)} {y:Nat} (h:on.getD y false=false) (h2:¬ 100<out.length):stepD next to f path on out y=dfsF next to f (path++[y]) y (on.set y true) out:=if_neg (by rw [h];simp;omega)
theorem set_mapB {on:List Bool} {y:Nat} {b:Bool}:(on.map boolV).set y (.bool b)=(on.set y b).map boolV:=by rw [List.map_set];rfl
theorem clnq_ok {G:Ghost} {bp cap pl:Nat} {cur:Array Value} {l:List Nat} (hpl:l.length=pl) (hq:QuOk cur 0 pl cap (l.map natV)) (h0:0<pl) (hl:l.length≤1000000) :
  FnOk prog 52 [Vs bp pl cap] G [.obj bp (.cells cur 3 (0,0))] fun r G' H'=>Nats G' r l∧H'=[.obj bp (.cells cur 3 (0,0))]:=by
 refine FnOk.of_T [(0,_)] func52 rfl ntmps52 sM rfl fun w0 hs =>Wt 8 [0] hs rfl<|Zy hs (Y_nilS underlying45 rfl rfl (fun h=>by cases h) (fun _ =>Wp 5 [0] hs rfl<|O_s (Se hs zeroValue3 rfl fun v1 _ hs _=>Wp 1 [] hs rfl<|O_s (S_appendQ 0 hs rfl hq h0 underlying45 TI3 rfl rfl rfl (nat_one' l) oM oM fun v7 _ hs =>Wp 2 [0] hs rfl<|T_ret ?_))))
 have hs:=hs.f1.f1
 refine Zz results52 rfl ?_
 obtain ⟨G',hG,hf,hs3⟩:=hs.fixRow (noMin hs sM)
 exact ⟨_,_,hs3,by subst hpl;simpa [Nats] using hf,rfl⟩
def PthC (G:Ghost) (b5 b15 b10 b16 b17 bo n to:Nat) (next:List (List Nat)) (f:Nat):Prop:=∀ (G1:Ghost) (bp cap pl:Nat) (cur:Array Value) (path:List Nat) (last:Nat) (on:List Bool) (outs:List (List Nat)) (vout:Value) (vs:List Value),G.le G1→path.length=pl→QuOk cur 0 pl cap (path.map natV)→path[pl-1]?=some last→last<n→0<pl→pl+offs on≤n→on.length=n→offs on<f→outs.length≤100→LRows G1 vs outs →
  FnOk prog 51 [Vs bp pl cap,Vp b5,Vp b15,Vp b10,Vp b16,Vp b17] G1 [.obj bp (.cells cur 3 (0,0)),.row 45 1 vout outs.length vs,.blk b15 36 [vout],.row 4 1 (Vs bo n n) n (on.map boolV)] fun _ G' H'=>∃ cur' vout' vs',QuOk cur' 0 pl cap (path.map natV)∧LRows G' vs' (dfsF next to f path last on outs)∧H'=[.obj bp (.cells cur' 3 (0,0)),.row 45 1 vout' (dfsF next to f path last on outs).length vs',.blk b15 36 [vout'],.row 4 1 (Vs bo n n) n (on.map boolV)]
theorem fpt1_ok {G:Ghost} {b5 b15 b10 b16 b17 bo n to cn f bp cap pl last:Nat} {An:Option Addr} {cur0:Array Value} {next:List (List Nat)} {path:List Nat} {on:List Bool} {outs:List (List Nat)} {vout0:Value} {vs0:List Value} (hB5:BlkAt G b5 [natV to]) (hB10:BlkAt G b10 [.slice An n cn]) (hN:LN G (.slice An n cn) next) (hB16:BlkAt G b16 [Vs bo n n]) (hB17:BlkAt G b17 [.func (.func 51) #[] #[Vp b5,Vp b15,Vp b10,Vp b16,Vp b17]]) (hnl:next.length=n) (hn6:n≤6) (hton:to<n) (hnx:∀ r∈next,(∀ y∈r,y<n)∧r.length≤1000) (ih:PthC G b5 b15 b10 b16 b17 bo n to next f) (hpl:path.length=pl) (hq0:QuOk cur0 0 pl cap (path.map natV)) (hlast:path[pl-1]?=some last) (hln:last<n) (hp0:0<pl) (hpo:pl+offs on≤n) (hol:on.length=n) (hof:offs on<f+1) (ho100:outs.length≤100) (hL0:LRows G vs0 outs) :
  FnOk prog 51 [Vs bp pl cap,Vp b5,Vp b15,Vp b10,Vp b16,Vp b17] G [.obj bp (.cells cur0 3 (0,0)),.row 45 1 vout0 outs.length vs0,.blk b15 36 [vout0],.row 4 1 (Vs bo n n) n (on.map boolV)] fun r G' H'=>∃ cur' vout' vs',QuOk cur' 0 pl cap (path.map natV)∧LRows G' vs' (dfsF next to (f+1) path last on outs)∧H'=[.obj bp (.cells cur' 3 (0,0)),.row 45 1 vout' (dfsF next to (f+1) path last on outs).length vs',.blk b15 36 [vout'],.row 4 1 (Vs bo n n) n (on.map boolV)]:=by
 have hq:=hq0
 have hL:=hL0
 refine FnOk.of_T [(0,_),(1,_),(2,_),(3,_),(4,_),(5,_)] func51 rfl ntmps51 sM rfl fun w0 hs=>?_
 have hB50:=hB5
 have hB100:=hB10
 have hN0:=hN
 have hB160:=hB16
 have hB170:=hB17
 have hM0:=hs.feetLt
 refine T_scope (T_seq (T_region rfl<|Wo 3 [] hs rfl<|Zy hs (Y_sub (c:=((pl-1:Nat):Int)) rfl rfl oM oM<|Zy hs (Y_queIdx (pl-1) underlying45 sizeOf3 rfl rfl rfl oM<|Zy hs (Y_queLd 0 rfl isAgg3 rfl (hq.get _ _ (row_nat' hlast))<|Wp 2 [0] hs rfl<|Wt 4 [] hs rfl<|Zy hs (Yg rfl (hB5 0 _ rfl)<|Zy hs (Yc rfl (fun h19=>?_) fun h19=>?_)))))))
 ·
  refine Wp 3 [0] hs rfl<|T_drawS [0,1,2,3] hs kR ?_
  replace hs:=hs.drew
  refine Xr [0,1] [2] hs rfl ?_
  have hle:=hs.le
  refine Xo 2 rfl (Sc (clnq_ok hpl hq hp0 oM) hs rfl fun v1 G' H' _ hR hG22 hs=>?_)
  obtain ⟨hcl,rfl⟩:=hR
  replace hs:=hs.n rfl
  replace hL:=hL.mono hG22
  obtain ⟨Ac,cc,rfl,_⟩:=id hcl
  refine A_moreS hs hle hG22 (List.Sublist.refl _) ?_
  have hle:=hs.le
  refine Xo 3 rfl (S_litF hs hM0 underlying36 sizeOf45 zeroValue45 rfl rfl dC dC rfl (cs:=[_]) rfl rfl fun v2 _ _ hG23 hl23 hs=>?_)
  replace hL:=hL.mono hG23
  replace hcl:=hcl.mono hG23
  refine A_moreS hs hle hG23 (List.Sublist.refl _)<|Xa 4 rfl (S_append hs.f1 underlying36 TI45 rfl dC rfl rfl (hl23) ((fun y hy=>by rw [List.mem_singleton.1 hy];rfl)) oM oM fun v3 _ hs =>Xn 5 rfl (Sd hs.f2 rfl (hs.f2.rowOne 1 rfl) fun _ hs=>Xe (Zk [] rfl<|T_ret ?_)))
  have hs:=hs.f3.f1.f2.f3
  refine Rt_fin (vs:=[]) results51 rfl trivial ?_
  try dsimp only [tup]
  have hre:(dfsF next to (f+1) path last on outs)=outs++[path]:=by rw [dfs_succ,if_pos oM]
  exact ⟨_,_,hs,cur0,v3,_,hq,by rw [hre];exact hL.snoc hcl,by rw [hre];simp⟩
 refine Wp 5 [0] hs rfl<|Zy hs (Yg rfl (hB10 0 _ rfl)<|Zy hs (Yg rfl (hB16 0 (Vs bo n n) rfl)<|Wp 1 [] hs rfl<|O_s (Sc (fdst_ok hN hnl hol oM hnx hln) hs.f3 rfl fun v4 G' H' _ hR hG28 hs=>?_)))
 obtain ⟨d,hD,hdI,rfl⟩:=hR
 replace hs:=hs.n rfl
 replace hB5:=hB5.mono hG28
 replace hB10:=hB10.mono hG28
 replace hN:=hN.mono hG28
 replace hB16:=hB16.mono hG28
 replace hB17:=hB17.mono hG28
 replace hL:=hL.mono hG28
 have hdl:=hD.len
 have hdt:=getD_in (a:=(-1:Int)) (show to<d.length by omega)
 have hdn:=hD.le to hton
 obtain ⟨Ad,cd,rfl,_⟩:=id hdI
 refine Wp 6 [0] hs rfl<|Zy hs (Yg rfl (hB5 0 _ rfl)<|Zy hs (Y_idxI hdI to underlying45 sizeOf3 rfl rfl rfl oM fun p31 hp31 =>Zy hs (Yg rfl (hp31)<|Zy hs (Yc rfl (fun h33=>?_) fun h33=>?_))))
 ·
  refine Wp 12 [7,0,2,3,4,5,7,43] hs rfl<|T_ret ?_
  have hs:=hs.f3.f3.f3
  refine Rt_fin (vs:=[]) results51 rfl trivial ?_
  try dsimp only [tup]
  have hre:=dfs_prune (fun r hr=>(hnx r hr).1) (show d.getD to (-1)<0 by omega) on hD (f+1) path last on outs hln hD.start (fun _ h=>h)
  exact ⟨_,_,hs,cur0,_,_,hq,by rw [hre];exact hL,by rw [hre]⟩
 refine Wp 4 [] hs rfl<|Zg hs rfl (Yg rfl (hB5 0 _ rfl)<|Zg hs rfl (Y_idxI hdI to underlying45 sizeOf3 rfl rfl rfl oM fun p39 hp39 =>Zg hs rfl (Yg rfl (hp39)<|Zg hs rfl (Ya (s:=((pl:Int)+d[to]'oM)) rfl<|Zg hs rfl (Y_cmpF rfl rfl rfl oM<|Wp 5 [7,0,2,3,4,5,7,43] hs rfl<|T_label<|Wt 2 [] hs rfl<|Zy hs (Yg rfl (hB10 0 _ rfl)<|Wp 1 [] hs rfl<|Zy hs (Y_idxS hN last underlying36 sizeOf45 rfl rfl rfl oM fun p46 c46 hp46 hc46 hR46=>?_)))))))
 obtain ⟨rr,hre⟩:∃ r,r=next[last]'oM:=⟨_,rfl⟩
 rw [← hre] at hR46
 have hrb:=hnx rr Z32
 obtain ⟨u46,rfl,hrr⟩:=hR46
 obtain ⟨Ar,cr,rfl,_⟩:=id hrr
 have hrg:next.getD last []=rr:=by rw [getD_in (show last<next.length by omega),hre]
 refine Zy hs (Yg rfl (hp46 0 (.slice Ar rr.length cr) rfl)<|Wp 3 [0] hs rfl ?_)
 have hs:=hs.f3.f3.f3
 refine Zl [0,2,4,5,47,48,49] (fun m E w=>∃ (j:Nat) (cur:Array Value) (os:List (List Nat)) (vo:Value) (vs:List Value) (G2:Ghost),j≤rr.length∧QuOk cur 0 pl cap (path.map natV)∧os.length≤101∧LRows G2 vs os∧(rr.drop j).foldl (stepD next to f path on) os=(dfsF next to (f+1) path last on outs)∧Nats G2 (.slice Ar rr.length cr) rr∧m=rr.length-j∧E=⟨[],[(0,Vs bp pl cap),(2,Vp b15),(4,Vp b16),(5,Vp b17),(47,.slice Ar rr.length cr),(48,Vi ((rr.length:Nat):Int)),(49,Vi (j:Int))]⟩∧St ⟨w0,G,feet [.obj bp (.cells cur0 3 (0,0)),.row 45 1 vout0 outs.length vs0,.blk b15 36 [vout0],.row 4 1 (Vs bo n n) n (on.map boolV)]⟩ G2 [.obj bp (.cells cur 3 (0,0)),.row 45 1 vo os.length vs,.blk b15 36 [vo],.row 4 1 (Vs bo n n) n (on.map boolV)] w) rfl (⟨0,cur0,outs,vout0,vs0,_,by omega,hq,by omega,hL,by rw [dfs_succ,if_neg oM,hrg];rfl,hrr,rfl,rfl,hs⟩) fun m E w hI=>?_
 obtain ⟨j,cur,os,vo,vs,G2,hj,hq,hos,hL,hfo,hrr,rfl,rfl,hs⟩:=hI
 have hB5:=hB50.mono hs.le
 have hB10:=hB100.mono hs.le
 have hN:=hN0.mono hs.le
 have hB16:=hB160.mono hs.le
 have hB17:=hB170.mono hs.le
 have hjd:∀ h:j<rr.length,rr.drop j=rr[j]::rr.drop (j+1):=fun h=>List.drop_eq_getElem_cons h
 refine Wt 2 [] hs rfl<|Zy hs (Yc rfl (fun h50=>?_) fun h50=>?_)
 ·
  refine Wp 8 [0] hs rfl<|Zy hs (Y_idxN hrr j underlying45 sizeOf3 rfl rfl rfl oM fun p51 hp51=>?_)
  obtain ⟨y,hye⟩:∃ y,y=rr[j]'oM:=⟨_,rfl⟩
  rw [← hye] at hp51
  have hyn:y<n:=hrb.1 y Z34
  refine Zy hs (Yg rfl (hp51)<|Wp 5 [0] hs rfl<|Zy hs (Yg rfl (hB16 0 (Vs bo n n) rfl)<|Wp 1 [] hs rfl<|Zy hs (Y_idxRow (y) underlying94 sizeOf4 rfl rfl rfl oM ?_)))
  obtain ⟨q56,hq56⟩:∃ q,q=on.getD y false:=⟨_,rfl⟩
  refine Zy hs (Y_ldRow 3 rfl isAgg4 rfl (show (on.map boolV)[y]?=some (.bool q56) from by rw [hq56];exact row_boolD oM) ?_)
  cases q56
  ·
   refine Wp 7 [0,2] hs rfl<|Zy hs (Y_lenOwn 1 rfl underlying36 rfl hs<|Zy hs (Yc rfl (fun h59=>?_) fun h59=>?_))
   ·
    refine Wp 2 [0] hs rfl<|T_ret ?_
    have hs:=hs.f3.f3.f3.f3
    refine Rt_fin (vs:=[]) results51 rfl trivial ?_
    try dsimp only [tup]
    rw [stepD_full oM] at hfo
    exact ⟨_,_,hs,cur,_,_,hq,by rw [← hfo];exact hL,by rw [← hfo]⟩
   refine Wp 5 [0] hs rfl<|Zy hs (Yg rfl (hB16 0 (Vs bo n n) rfl)<|Wp 1 [] hs rfl<|Zy hs (Y_idxRow (y) underlying94 sizeOf4 rfl rfl rfl oM<|O_n (S_stRow hs.f3 sizeOf4 rfl rfl rfl oM fun _ hs =>Wp 1 [0] hs rfl ?_)))
   rw [set_mapB] at hs
   have hoff:=offs_set (show y<on.length by omega) hq56.symm
   have hs:=hs.f1
   have hsW:=hs.drop
   refine Wu 1 [] hs rfl<|T_drawS [0,1,2,3,4] hsW kR ?_
   replace hs:=hs.drew
   replace hsW:=hsW.drew
   refine Xt 0 hsW rfl (Yg rfl (hB17 0 _ rfl)<|Xr [1,2] [] hsW rfl ?_)
   have hle:=hs.le
   refine Xo 3 rfl (S_litF hs hM0 underlying45 sizeOf3 zeroValue3 rfl rfl dC dC rfl (cs:=[_]) rfl rfl fun v5 _ _ hG66 hl66 hs=>?_)
   replace hB16:=hB16.mono hG66
   replace hrr:=hrr.mono hG66
   replace hL:=hL.mono hG66
   have hsW:=hs.drop
   refine A_moreS hsW hle hG66 (List.Sublist.refl _) ?_
   have hle:=hs.le
   refine Xo 4 rfl (S_queApp hs hq underlying45 TI3 rfl rfl rfl hl66 rfl oM oM (fun cur2 _ hq2 _ _ _ hs=>?_) (fun b2 cap2 cur2 _ hq2 hs=>?_))
   ·
    have hsW:=hs.drop
    refine A_moreS hsW hle (Ghost.le.refl _) (List.Sublist.refl _)<|Xa 5 rfl (S_callV (args:=[_]) (lb:=[_,_,_,_,_]) (H1:=[_,_,_,_]) hs.f1.f3.f3.f3 rfl rfl func51 rfl kR (ih _ bp cap (pl+1) cur2 (path++[y]) y (on.set y true) os vo vs hs.f1.f3.f3.f3.le Z50 (by simpa using hq2) (by simp [hpl]) hyn oM oM (by rw [List.length_set];exact hol) oM oM hL) fun v6 G' H' _ hR hG68 hs=>?_)
    obtain ⟨cur3,vo2,vs2,hq3,hL,rfl⟩:=hR
    replace hs:=hs.n rfl
    replace hB16:=hB16.mono hG68
    replace hrr:=hrr.mono hG68
    have hq:=QuOk.pre (y:=natV y) (by simpa using hq3)
    refine Xe (Zk [0,2,4,5,10,47,48,49] rfl ?_)
    refine Zr<|Zy hs (Yg rfl (hB16 0 (Vs bo n n) rfl)<|Wp 1 [] hs rfl<|Zy hs (Y_idxRow (y) underlying94 sizeOf4 rfl rfl rfl oM<|O_n (S_stRow hs.f3 sizeOf4 rfl rfl rfl oM fun _ hs =>Wp 1 [0] hs rfl ?_)))
    rw [set_mapB,set_back oM hq56.symm] at hs
    refine Zr<|Zy hs (Ya (s:=((j+1:Nat):Int)) rfl<|Wp 1 [] hs rfl ?_)
    have hs:=hs.f3.f3.f3
    rw [hjd oM,← hye,List.foldl_cons,stepD_go hq56.symm oM] at hfo
    refine Zx [0,2,4,5,47,48,49] rfl ⟨j+1,_,_,_,vs2,_,by omega,hq,dfs_le _ _ _ _ _ oM,hL,hfo,hrr,rfl,rfl,hs.weak hs.le (Ghost.le.refl _) (List.sublist_append_left [_,_,_,_] _)⟩
   have hs:=hs.f1.f1
   have hsW:=hs.drop.drop
   refine A_moreS hsW hle (Ghost.le.refl _) (List.Sublist.refl _)<|Xa 5 rfl (S_callV (args:=[_]) (lb:=[_,_,_,_,_]) (H1:=[_,_,_,_]) hs.f2.f4.f4.f3 rfl rfl func51 rfl kR (ih _ b2 cap2 (pl+1) cur2 (path++[y]) y (on.set y true) os vo vs hs.f2.f4.f4.f3.le Z50 (by simpa using hq2) (by simp [hpl]) hyn oM oM (by rw [List.length_set];exact hol) oM oM hL) fun v7 G' H' _ hR hG68 hs=>?_)
   obtain ⟨cur3,vo2,vs2,hq3,hL,rfl⟩:=hR
   replace hs:=hs.n rfl
   replace hB16:=hB16.mono hG68
   replace hrr:=hrr.mono hG68
   refine Xe (Zk [0,2,4,5,10,47,48,49] rfl ?_)
   refine Zr<|Zy hs (Yg rfl (hB16 0 (Vs bo n n) rfl)<|Wp 1 [] hs rfl<|Zy hs (Y_idxRow (y) underlying94 sizeOf4 rfl rfl rfl oM<|O_n (S_stRow hs.f3 sizeOf4 rfl rfl rfl oM fun _ hs =>Wp 1 [0] hs rfl ?_)))
   rw [set_mapB,set_back oM hq56.symm] at hs
   refine Zr<|Zy hs (Ya (s:=((j+1:Nat):Int)) rfl<|Wp 1 [] hs rfl ?_)
   have hs:=hs.f3.f3.f4
   rw [hjd oM,← hye,List.foldl_cons,stepD_go hq56.symm oM] at hfo
   refine Zx [0,2,4,5,47,48,49] rfl ⟨j+1,_,_,_,vs2,_,by omega,hq,dfs_le _ _ _ _ _ oM,hL,hfo,hrr,rfl,rfl,hs.weak hs.le (Ghost.le.refl _) (List.sublist_append_left [_,_,_,_] _)⟩
  refine Wp 4 [0] hs rfl<|Zy hs (Ya (s:=((j+1:Nat):Int)) rfl<|Wp 1 [] hs rfl ?_)
  have hs:=hs.f3.f3.f3.f3
  rw [hjd oM,← hye,List.foldl_cons,stepD_skip hq56.symm] at hfo
  refine Zx [0,2,4,5,47,48,49] rfl ⟨j+1,_,os,_,vs,_,by omega,hq,hos,hL,hfo,hrr,rfl,rfl,hs⟩
 refine Wp 4 [0] hs rfl ?_
 try dsimp only [Ex.At,Ex.sqs,Ex.sq,Ex.lp,Ex.bk]
 try rw [show Nat.beq _ _=true from Nat.beq_refl _,cond_true]
 have hs:=hs.f3.f3.f3.f3
 refine Rt_finN (vs:=[]) results51 rfl trivial ?_
 try dsimp only [tup]
 rw [List.drop_eq_nil_of_le oM,List.foldl_nil] at hfo
 exact ⟨_,_,hs,cur,_,_,hq,by rw [← hfo];exact hL,by rw [← hfo]⟩
theorem ptc_all {b5 b15 b10 b16 b17 bo n to cn:Nat} {An:Option Addr} {next:List (List Nat)}:∀ (f:Nat) {G:Ghost} (hB5:BlkAt G b5 [natV to]) (hB10:BlkAt G b10 [.slice An n cn]) (hN:LN G (.slice An n cn) next) (hB16:BlkAt G b16 [Vs bo n n]) (hB17:BlkAt G b17 [.func (.func 51) #[] #[Vp b5,Vp b15,Vp b10,Vp b16,Vp b17]]) (hnl:next.length=n) (hn6:n≤6) (hton:to<n) (hnx:∀ r∈next,(∀ y∈r,y<n)∧r.length≤1000),PthC G b5 b15 b10 b16 b17 bo n to next f
  | 0,_,_,_,_,_,_,_,_,_,_=>fun _ _ _ _ _ _ _ _ _ _ _ _ _ _ _ _ _ _ _ h _ _=>absurd h (Nat.not_lt_zero _)
  | f+1,G,hB5,hB10,hN,hB16,hB17,hnl,hn6,hton,hnx=>fun G1 bp cap pl cur path last on outs vout vs hG hpl hq hlast hln hp0 hpo hol hof ho100 hL =>
    fpt1_ok (hB5.mono hG) (hB10.mono hG) (hN.mono hG) (hB16.mono hG) (hB17.mono hG) hnl hn6 hton hnx (ptc_all f (hB5.mono hG) (hB10.mono hG) (hN.mono hG) (hB16.mono hG) (hB17.mono hG) hnl hn6 hton hnx) hpl hq hlast hln hp0 hpo hol hof ho100 hL
def nextR (f:FltM) (n i k:Nat):List Nat:=(List.range k).filter fun z=>decide ((((i:Nat):Int),((z:Nat):Int))∈f.edges)
def nextN (f:FltM) (n:Nat):List (List Nat):=(List.range n).map fun i=>nextR f n i n
def pathsF (f:FltM) (a b:Nat):List (List Nat):=if a=b then [] else dfsF (nextN f f.nodes.length) b f.nodes.length [a] a ((List.replicate f.nodes.length false).set a true) []
theorem nextR_T {f:FltM} {n i k:Nat} (h:(((i:Nat):Int),((k:Nat):Int))∈f.edges):nextR f n i (k+1)=nextR f n i k++[k]:=by
  unfold nextR;rw [List.range_succ,List.filter_append];simp [h]
theorem nextR_F {f:FltM} {n i k:Nat} (h:¬ (((i:Nat):Int),((k:Nat):Int))∈f.edges):nextR f n i (k+1)=nextR f n i k:=by
  unfold nextR;rw [List.range_succ,List.filter_append];simp [h]
theorem nextR_le {f:FltM} {n i k:Nat}:(nextR f n i k).length≤k:=by
  unfold nextR;exact Nat.le_trans (List.length_filter_le _ _) (by rw [List.length_range];exact Nat.le_refl k)
theorem nextR_lt {f:FltM} {n i k y:Nat} (h:y∈nextR f n i k):y<k:=by unfold nextR at h;exact List.mem_range.1 (List.mem_filter.1 h).1
theorem nextN_len {f:FltM} {n:Nat}:(nextN f n).length=n:=by unfold nextN;rw [List.length_map,List.length_range]
theorem nextN_take {f:FltM} {n i:Nat} (h:i<n):(nextN f n).take (i+1)=(nextN f n).take i++[nextR f n i n]:=by
  rw [take_succ' (by rw [nextN_len];exact h)]
  unfold nextN
  simp
theorem nextN_ok {f:FltM} {n:Nat} (hn:n≤1000):∀ r∈nextN f n,(∀ y∈r,y<n)∧r.length≤1000:=by
  intro r hr
  unfold nextN at hr
  obtain ⟨i,_,rfl⟩:=List.mem_map.1 hr
  exact ⟨fun y hy=>nextR_lt hy,Nat.le_trans nextR_le hn⟩
theorem nil_mid {n i:Nat} {vs:List Value} (h:i<n):vs++List.replicate (n-i) (Value.slice none 0 0)=vs++.slice none 0 0::List.replicate (n-i-1) (.slice none 0 0):=by
  rw [show n-i=(n-i-1)+1 from by omega,List.replicate_succ];rfl
theorem mid_at {vs t:List Value} {v:Value} {i:Nat} (h:vs.length=i):(vs++v::t)[i]?=some v:=by subst h;simp
theorem mid_set {vs t:List Value} {v u:Value} {i:Nat} (h:vs.length=i):(vs++v::t).set i u=vs++u::t:=by subst h;simp
theorem offs_start {n a:Nat} (h:a<n):offs ((List.replicate n false).set a true)+1=n:=by
  rw [offs_set Z49 (by rw [getD_in Z49,List.getElem_replicate])]
  unfold offs;rw [List.countP_replicate];simp
section
variable {x:Cx} {W:World→Prop} {E:Env} {K:Value→Prop} {d:Option Tmp} {ty:TypeId} {pos:String} {aft:Array Edge} {g:Option (Nat×Bool)}
theorem Y_lenE {o:Operand} {t e:TypeId} {A:Option Addr} {m n cp:Nat} (hu:x.P.underlying t=some (.slice e)) (h1:ev E o=some (.slice A m cp)) (he:m=n) (k:K (Vi (n:Int))):Y x W ⟨d,.call { callee:=.builtin .len,args:=#[o],argTypes:=#[t] },ty,pos,aft,g⟩ E K:=by
  subst he;exact Y_len hu h1 k
end
theorem rep_setB {n a:Nat}:(List.replicate n (Value.bool false)).set a (.bool true)=((List.replicate n false).set a true).map boolV:=by rw [List.map_set,List.map_replicate];rfl
theorem fpthb_ok {G:Ghost} {a b:Int} {Ap An Ae Ar:Option Addr} {cp cn ce cr:Nat} {f:FltM} (hf:FltC G Ap An Ae Ar cp cn ce cr f) (hz:FSz f) (hP:∀ p∈f.progs,OkP p) (hT:Tab G) (hC:¬ checkE f=0) :
  FnOk prog 23 [(.agg (fltL Ap An Ae Ar cp cn ce cr f).toArray),Vi a,Vi b] G [] fun r _ H'=>H'=[]∧r=.tuple #[Vn,Vi (checkE f)]:=by
 show FnOk _ _ [.agg #[.slice Ap f.progs.length cp,.slice An f.nodes.length cn,.slice Ae f.edges.length ce,.slice Ar f.routes.length cr],Vi a,Vi b] _ _ _
 refine FnOk.of_T [(0,_),(1,_),(2,_)] func23 rfl ntmps23 sM rfl fun w0 hs=>?_
 have hf0:=hf
 have hT0:=hT
 refine Wt 2 [] hs rfl<|O_s (Sb hs rfl fun b3 _ hs=>O_s (Sb hs rfl fun b5 _ hs=>Wp 6 [0,1] hs rfl<|O_s (Sc (fchk_F hf hz hP hT hC) hs rfl fun v1 G' H' _ hR hG20 hs=>?_)))
 obtain ⟨rfl,rfl⟩:=hR
 replace hs:=hs.n rfl
 refine Wp 10 [0] hs rfl<|Zy hs (Y_cmpT rfl rfl rfl (hC)<|Wp 8 [0,0] hs rfl<|T_ret ?_)
 refine Rt_fin (vs:=[_,_]) results23 rfl ⟨rfl,rfl,trivial⟩ ?_
 try dsimp only [tup]
 exact ⟨_,[],hs.done,rfl,rfl⟩
theorem fpth_ok {G:Ghost} {a b n:Nat} {Ap An Ae Ar:Option Addr} {cp cn ce cr:Nat} {f:FltM} (hf:FltC G Ap An Ae Ar cp cn ce cr f) (hz:FSz f) (hP:∀ p∈f.progs,OkP p) (hT:Tab G) (hC:checkE f=0) (hnn:f.nodes.length=n) (hn6:n≤6) (ha:a<n) (hb:b<n) (hlen:(pathsF f a b).length≤100) :
  FnOk prog 23 [(.agg (fltL Ap An Ae Ar cp cn ce cr f).toArray),Vi (a:Int),Vi (b:Int)] G [] fun r G' H'=>H'=[]∧∃ v,r=.tuple #[v,Vi 0]∧LN G' v (pathsF f a b):=by
 obtain ⟨hc0,hc1,hcn,hce,hcr⟩:=ce_inv hC
 have hnd:=edgesB_nodup hce
 show FnOk _ _ [.agg #[.slice Ap f.progs.length cp,.slice An f.nodes.length cn,.slice Ae f.edges.length ce,.slice Ar f.routes.length cr],Vi (a:Int),Vi (b:Int)] _ _ _
 refine FnOk.of_T [(0,_),(1,_),(2,_)] func23 rfl ntmps23 sM rfl fun w0 hs=>?_
 have hf0:=hf
 have hT0:=hT
 refine Wt 2 [] hs rfl<|O_s (Sb hs rfl fun b3 _ hs=>O_s (Sb hs rfl fun b5 _ hs=>Wp 6 [0,1] hs rfl<|O_s (Sc (fchk_T hf hz hP hT hC) hs rfl fun v1 G' H' _ hR hG20 hs=>?_)))
 obtain ⟨bm,rfl,rfl⟩:=hR
 replace hs:=hs.n rfl
 replace hf:=hf.mono hG20
 replace hT:=hT.mono hG20
 refine Wp 21 [0,0,1,2] hs rfl<|O_s (Sc (fin_ok) hs rfl fun v2 G' H' _ hR hG30 hs=>?_)
 obtain ⟨rfl,rfl⟩:=hR
 replace hs:=hs.n rfl
 replace hf:=hf.mono hG30
 replace hT:=hT.mono hG30
 rw [show inB (a:Int) (f.nodes.length:Int)=true from inB_iff.2 oM]
 refine Wp 6 [1,1,2] hs rfl<|O_yes 32 rfl rfl (Sc (fin_ok) hs rfl fun v3 G' H' _ hR hG37 hs=>?_)
 obtain ⟨rfl,rfl⟩:=hR
 replace hs:=hs.n rfl
 replace hf:=hf.mono hG37
 replace hT:=hT.mono hG37
 rw [show inB (b:Int) (f.nodes.length:Int)=true from inB_iff.2 oM]
 refine Wp 10 [5,1,3,5,8,39,1] hs rfl<|Zy hs (Yc rfl (fun h42=>?_) fun h42=>?_)
 ·
  refine Wp 7 [0,0] hs rfl<|T_ret ?_
  refine Rt_fin (vs:=[_,_]) results23 rfl ⟨rfl,rfl,trivial⟩ ?_
  try dsimp only [tup]
  exact ⟨_,[],hs.done,rfl,_,rfl,by rw [show pathsF f a b=[] from if_pos oM];exact LstR.nil⟩
 refine Wp 3 [0] hs rfl ?_
 have hpf:pathsF f a b=(dfsF (nextN f n) b n [a] a ((List.replicate n false).set a true) []):=by unfold pathsF;rw [if_neg oM,hnn]
 refine Wu 4 [1,2] hs rfl<|Zy hs (Y_lenE underlying34 rfl hnn<|O_s (S_make (n:=n) (m:=n) hs underlying36 TI45 rfl rfl rfl oM oM oM fun b46 _ hs =>O_s (Sa hs zeroValue36 rfl fun b10 _ hs=>O_n (Sd hs rfl (hs.rowOne 1 rfl) fun _ hs=>Wp 8 [0,0,0] hs rfl ?_))))
 have hs:=hs.f4.f4.f4.f3.f4
 refine Zl [1,3,5,8,10,48,49] (fun m E w=>∃ (i:Nat) (vs:List Value) (G2:Ghost),i≤n∧vs.length=i∧LRows G2 vs ((nextN f n).take i)∧m=n-i∧E=⟨[],[(1,Vi (a:Int)),(3,Vp b3),(5,Vp b5),(8,.map (some bm)),(10,Vp b10),(48,Vi ((n:Nat):Int)),(49,Vi (i:Int))]⟩∧St ⟨w0,G,feet []⟩ G2 [.row 45 1 (Vs b46 n n) n (vs++List.replicate (n-i) (Vn)),.blk b10 36 [Vs b46 n n],.obj bm (.map (esOf eK f.edges).toArray f.edges.length),.blk b5 3 [natV b],.blk b3 38 [.slice Ap f.progs.length cp,.slice An f.nodes.length cn,.slice Ae f.edges.length ce,.slice Ar f.routes.length cr]] w) rfl (⟨0,[],_,by omega,rfl,trivial,rfl,rfl,hs⟩) fun m E w hI=>?_
 obtain ⟨i,vs,G2,hi,hvl,hLv,rfl,rfl,hs⟩:=hI
 have hf:=hf0.mono hs.le
 have hT:=hT0.mono hs.le
 refine Wt 2 [] hs rfl<|Zy hs (Yc rfl (fun h50=>?_) fun h50=>?_)
 ·
  refine Wp 15 [0,0,1,4] hs rfl<|Zy hs (Y_lenE underlying34 rfl hnn<|Wp 2 [0] hs rfl ?_)
  have hs:=hs.nilRow 3 1
  have hs:=hs.f5.f5.f5.f5.f5.f5
  rw [nil_mid oM] at hs
  refine Zl [1,3,5,8,10,11,48,49,54,55] (fun m E w=>∃ (k:Nat) (v6:Value) (G2:Ghost),k≤n∧LRows G2 vs ((nextN f n).take i)∧m=n-k∧E=⟨[],[(1,Vi (a:Int)),(3,Vp b3),(5,Vp b5),(8,.map (some bm)),(10,Vp b10),(11,Vi (i:Int)),(48,Vi ((n:Nat):Int)),(49,Vi (i:Int)),(54,Vi (n:Int)),(55,Vi (k:Int))]⟩∧St ⟨w0,G,feet []⟩ G2 [.row 3 1 v6 (nextR f n i k).length ((nextR f n i k).map natV),.row 45 1 (Vs b46 n n) n (vs++v6::List.replicate (n-i-1) (Vn)),.blk b10 36 [Vs b46 n n],.obj bm (.map (esOf eK f.edges).toArray f.edges.length),.blk b5 3 [natV b],.blk b3 38 [.slice Ap f.progs.length cp,.slice An f.nodes.length cn,.slice Ae f.edges.length ce,.slice Ar f.routes.length cr]] w) rfl (⟨0,_,_,by omega,hLv,rfl,rfl,hs⟩) fun m E w hI=>?_
  obtain ⟨k,v6,G2,hk,hLv,rfl,rfl,hs⟩:=hI
  have hf:=hf0.mono hs.le
  have hT:=hT0.mono hs.le
  refine Wt 2 [] hs rfl<|Zy hs (Yc rfl (fun h56=>?_) fun h56=>?_)
  ·
   refine Wp 16 [0,0] hs rfl<|Zy hs (Y_buildA underlying31 sizeOf3 zeroValue31 rfl rfl (cs:=[_,_]) rfl<|Zy hs (Y_lookupK (a:=((i:Int),(k:Int))) 3 rfl underlying76 keyE zeroValue3 hnd rfl rfl (fun hno=>?_) (fun hyes=>?_)))
   ·
    refine Wp 13 [0,0] hs rfl<|Zy hs (Ya (s:=((k+1:Nat):Int)) rfl<|Wp 1 [] hs rfl ?_)
    have hs:=hs.f5.f5.f5.f5.f5.f5
    refine Zx [1,3,5,8,10,11,48,49,54,55] rfl ⟨k+1,v6,_,by omega,hLv,rfl,rfl,castH hs (by rw [nextR_F (fun h=>hno (posK_mem.2 h))])⟩
   refine Wp 10 [0,0] hs rfl ?_
   have hsW:=hs.drop
   refine Wu 1 [] hs rfl<|T_drawS [0,1,2,3,4,5,6,7,8,9] hsW kR ?_
   replace hs:=hs.drew
   replace hsW:=hsW.drew
   refine Xr [0,1,2,3] [1,1] hsW rfl<|Xt 4 hsW rfl (Y_idxRow (i) underlying36 sizeOf45 rfl rfl rfl oM<|Xt 5 hsW rfl (Y_ldRow 0 rfl isAgg45 rfl (mid_at hvl)<|Xr [6] [] hsW rfl ?_))
   have hle:=hs.le
   refine Xo 7 rfl (S_lit hs underlying45 sizeOf3 zeroValue3 rfl rfl dC dC rfl (cs:=[_]) rfl rfl fun v4 _ hs _=>?_)
   obtain ⟨_,hG74,hl74,hs⟩:=hs.fixRow noM
   replace hLv:=hLv.mono hG74
   have hsW:=hs.drop
   refine A_moreS hsW hle hG74 (List.Sublist.refl _) ?_
   have hle:=hs.le
   refine Xo 8 rfl (S_append hs underlying45 TI3 rfl dC rfl rfl (hl74) (one1 rfl) (by have:=nextR_le (f:=f) (n:=n) (i:=i) (k:=k);omega) (by have:=nextR_le (f:=f) (n:=n) (i:=i) (k:=k);omega) fun v5 _ hs=>?_)
   have hsW:=hs.drop
   refine A_moreS hsW hle (Ghost.le.refl _) (List.Sublist.refl _)<|Xt 9 hsW rfl (Y_idxRow (i) underlying36 sizeOf45 rfl rfl rfl oM<|Xn 10 rfl (S_stRow hs.f1 sizeOf45 rfl rfl (hs.f1.rowOne 1 rfl) oM fun _ hs=>?_))
   rw [mid_set hvl] at hs
   refine Xe (Zk [1,3,5,8,10,11,48,49,54,55] rfl ?_)
   refine Zr<|Zy hs (Ya (s:=((k+1:Nat):Int)) rfl<|Wp 1 [] hs rfl ?_)
   have hs:=hs.f5.f5.f5.f5.f4.f5
   refine Zx [1,3,5,8,10,11,48,49,54,55] rfl ⟨k+1,v5,_,by omega,hLv,rfl,rfl,castH hs (by rw [nextR_T (posK_mem.1 hyes)];simp [natV])⟩
  refine Wp 4 [0] hs rfl ?_
  refine Zr<|Zy hs (Ya (s:=((i+1:Nat):Int)) rfl<|Wp 1 [] hs rfl ?_)
  obtain ⟨_,hG_hfr,hfr,hs⟩:=hs.fixRow noM
  replace hLv:=hLv.mono hG_hfr
  have hs:=hs.f4.f4.f4.f4.f4
  have hkn:k=n:=by omega
  rw [hkn] at hfr
  refine Zx [1,3,5,8,10,48,49] rfl ⟨i+1,vs++[v6],_,by omega,by simp [hvl],by rw [nextN_take oM];exact hLv.snoc hfr,rfl,rfl,castH hs (by rw [List.append_assoc,show n-(i+1)=n-i-1 from by omega];rfl)⟩
 refine Wp 4 [0] hs rfl ?_
 have hin:i=n:=by omega
 rw [hin,Nat.sub_self,List.replicate_zero,List.append_nil] at hs
 rw [hin,List.take_of_length_le (by rw [nextN_len];exact Nat.le_refl _)] at hLv
 obtain ⟨_,hG_hfo,hfo,hs⟩:=hs.fixRow noM
 replace hLv:=hLv.mono hG_hfo
 have hN:LN _ _ (nextN f n):=LRows.fin hfo nextN_len.symm hLv
 obtain ⟨_,hGbhB10,hB10,hs⟩:=hs.fixBlk (fun k _=>noMb k)
 replace hN:=hN.mono hGbhB10
 replace hB10:BlkAt _ b10 _:=hB10
 have hs:=hs.f1
 obtain ⟨_,hGbhB5,hB5,hs⟩:=hs.fixBlk (fun k _=>noMb k)
 replace hN:=hN.mono hGbhB5
 replace hB10:=hB10.mono hGbhB5
 replace hB5:BlkAt _ b5 _:=hB5
 refine Wu 2 [] hs rfl<|O_s (Sa hs zeroValue36 rfl fun b15 _ hs=>Wp 1 [0] hs rfl ?_)
 have hs:=hs.nilRow 45 1
 refine Wu 4 [1,3] hs rfl<|Zy hs (Y_lenE underlying34 rfl hnn<|O_s (S_make (n:=n) (m:=n) hs underlying94 TI4 rfl rfl rfl oM oM oM fun b82 _ hs =>O_s (Sa hs zeroValue94 rfl fun b16 _ hs=>O_n (Sd hs rfl (hs.rowOne 1 rfl) fun _ hs=>Wp 1 [0] hs rfl ?_))))
 obtain ⟨_,hGbhB16,hB16,hs⟩:=hs.fixBlk (fun k _=>noMb k)
 replace hN:=hN.mono hGbhB16
 replace hB10:=hB10.mono hGbhB16
 replace hB5:=hB5.mono hGbhB16
 replace hB16:BlkAt _ b16 _:=hB16
 refine Wu 2 [] hs rfl<|O_s (Sa hs zeroValue87 rfl fun b17 _ hs=>Wp 3 [0] hs rfl<|Zy hs (Y_makeFunc (vs:=[_,_,_,_,_]) rfl<|O_n (Sd hs rfl rfl fun _ hs=>Wp 1 [0] hs rfl ?_)))
 obtain ⟨_,hGbhB17,hB17,hs⟩:=hs.fixBlk (fun k _=>noMb k)
 replace hN:=hN.mono hGbhB17
 replace hB10:=hB10.mono hGbhB17
 replace hB5:=hB5.mono hGbhB17
 replace hB16:=hB16.mono hGbhB17
 replace hB17:BlkAt _ b17 _:=hB17
 refine Wu 2 [] hs rfl<|Zy hs (Yg rfl (hB16 0 (Vs b82 n n) rfl)<|Wp 1 [] hs rfl<|Zy hs (Y_idxRow (a) underlying94 sizeOf4 rfl rfl rfl oM<|O_n (S_stRow hs sizeOf4 rfl rfl rfl oM fun _ hs =>Wp 1 [0] hs rfl ?_)))
 rw [rep_setB] at hs
 refine Wu 2 [] hs rfl<|Zy hs (Yg rfl (hB17 0 _ rfl)<|Wp 1 [] hs rfl<|O_s (S_lit hs underlying45 sizeOf3 zeroValue3 rfl rfl dC dC rfl (cs:=[_]) rfl rfl fun v6 _ hs _=>?_))
 obtain ⟨bp,cur0,cap0,rfl,hq0,hs⟩:=hs.toQue dC
 refine O_s (S_callV (args:=[_]) (lb:=[_,_,_,_,_]) (H1:=[_,_,_,_]) hs.f1.f3.f3.f3 rfl rfl func51 rfl kR (ptc_all n hB5 hB10 hN hB16 hB17 nextN_len hn6 hb (nextN_ok oM) _ bp cap0 1 cur0 [a] a ((List.replicate n false).set a true) [] (Vn) [] (Ghost.le.refl _) rfl hq0 rfl ha dC (by have:=offs_start ha;omega) sM (by have:=offs_start ha;omega) dC trivial) fun v7 G' H' _ hR hG90 hs=>?_)
 obtain ⟨cur3,vo2,vs2,hq3,hL,rfl⟩:=hR
 replace hs:=hs.n rfl
 refine Wp 5 [0,2] hs rfl<|Zy hs (Y_lenOwn 1 rfl underlying36 rfl hs<|Zy hs (Y_cmpF rfl rfl rfl (by rw [hpf] at hlen;omega)<|Wp 9 [2,15,93,2,0] hs rfl<|T_ret ?_))
 have hs:=hs.f1
 obtain ⟨_,hG_hfp,hfp,hs⟩:=hs.fixRow noM
 replace hL:=hL.mono hG_hfp
 refine Rt_fin (vs:=[_,_]) results23 rfl ⟨rfl,rfl,trivial⟩ ?_
 try dsimp only [tup]
 exact ⟨_,[],hs.done,rfl,_,rfl,by rw [hpf];exact LRows.fin hfp rfl hL⟩
theorem PL114:places prog 114=some [(0,1),(1,1),(2,1),(3,1),(4,1),(5,1),(6,1),(7,1),(8,1),(9,3),(12,4),(16,5),(21,1),(22,1),(23,7),(30,1),(31,1),(32,1)]:=by kernel_rfl
theorem PL152:places prog 152=some [(0,1),(1,4),(5,1),(6,1),(7,1),(8,1)]:=by kernel_rfl
theorem PL70:places prog 70=some [(0,1),(1,1)]:=by kernel_rfl
theorem TI114:TI prog 114 (.agg #[Vi 0,Vi 0,Vi 0,Vi 0,Vi 0,Vi 0,Vi 0,Vn,Vf,Vi 0,Vn,Vn,.int .u64 0,.int .u64 0,.int .u64 0,.int .u64 0,Vi 0,Vi 0,Vi 0,Vi 0,Vf,Vn,Vn,Vi 0,Vf,Vi 0,Vi 0,Vi 0,Vi 0,Vn,.string ByteArray.empty,Vi 0,Vi 0]) 33 368:=TI.of kR
theorem rwth_ok {G:Ghost} {c:List Nat} {x:UInt8} {z:Int} (hc:c.length=4) (hz:z=(x.toNat:Int)) :
  FnOk prog 90 [ClsV c,Vi z] G [] fun r _ H'=>H'=[]∧r=ClsV (addF c x):=by
 subst hz
 have hx:=x.toNat_lt
 have hcell:(c.map u64V)[x.toNat / 64]?=some (u64V (c.getD (x.toNat / 64) 0)):=by rw [List.getElem?_map,List.getElem?_eq_getElem oM,List.getD_eq_getElem?_getD,List.getElem?_eq_getElem oM];rfl
 have hal:(addF c x).length=4:=by unfold addF;rw [List.length_set];exact hc
 refine FnOk.of_T [(0,_),(1,_)] func90 rfl ntmps90 sM rfl fun w0 hs =>Wt 2 [] hs rfl<|O_s (S_box hs rfl (cs:=(List.map u64V c)) rfl fun b2 _ hs =>O_s (S_alloc hs zeroValue104 (cs:=(List.map u64V [0,0,0,0])) rfl fun b4 _ hs =>Wp 2 [0] hs rfl<|T_drawS [0,1,2,3,4,5,6,7,8,9,10] hs kR ?_))
 replace hs:=hs.drew
 refine Xr [0] [] hs rfl<|Xt 1 hs rfl (Y_quo (c:=((x.toNat / 64:Nat):Int)) rfl rfl oM oM oM<|Xr [2] [] hs rfl<|Xt 3 hs rfl (Y_quo (c:=((x.toNat / 64:Nat):Int)) rfl rfl oM oM oM<|Xt 4 hs rfl (Y_idxArr' (x.toNat / 64) underlying104 sizeOf102 rfl rfl rfl oM<|Xt 5 hs rfl (Y_ld 1 isAgg102 rfl rfl hcell<|Xr [6] [] hs rfl<|Xt 7 hs rfl (Y_rem (c:=((x.toNat % 64:Nat):Int)) rfl rfl oM oM oM<|Xt 8 hs rfl (Y_shl1 (x.toNat % 64) oM rfl rfl<|Xt 9 hs rfl (Y_or64 rfl rfl<|Xt 10 hs rfl (Y_idxArr' (x.toNat / 64) underlying104 sizeOf102 rfl rfl rfl oM<|Xn 11 rfl (S_st hs.f1 sizeOf102 rfl rfl rfl Z40 (cs':=(addF c x).map u64V) (by unfold addF;rw [List.map_set]) fun _ hs =>Xe (Zk [2,4] rfl<|Wu 2 [] hs rfl<|Zy hs (Yk 0 rfl Z36<|O_n (Sw hs.f1 rfl (vs:=(List.map u64V (addF c x))) Z36 Z36 (u64_all _) fun _ hs=>Wp 1 [0] hs rfl<|T_ret ?_))))))))))))
 have hr:=hs
 refine Rt_fin (vs:=[_]) results90 rfl ⟨ResOk_blk 0 hr isAgg104 sizeOf104 rfl (cs:=(List.map u64V (addF c x))) rfl Z36,trivial⟩ ?_
 try dsimp only [tup]
 exact ⟨_,[],hs.done,rfl,rfl⟩
theorem lett1_ok {G:Ghost} :
  FnOk prog 59 [Vi 1] G [] fun r _ H'=>H'=[]∧r=ClsV clA:=by
 refine FnOk.of_T [(0,_)] func59 rfl ntmps59 sM rfl fun w0 hs =>Wt 2 [] hs rfl<|O_s (S_alloc hs zeroValue104 (cs:=(List.map u64V [0,0,0,0])) rfl fun b2 _ hs =>Wp 3 [0] hs rfl<|Zy hs (Y_buildA underlying104 sizeOf102 zeroValue104 rfl rfl (cs:=[_,_,_,_]) rfl<|O_s (S_alloc hs zeroValue104 (cs:=(List.map u64V [0,0,0,0])) rfl fun b3 _ hs =>O_n (Sw hs rfl (vs:=(List.map u64V [0,0,0,0])) rfl rfl (u64_all _) fun _ hs=>Wp 5 [0] hs rfl<|Zy hs (Y_rem (c:=1) rfl rfl dC dC dC<|Wp 4 [0] hs rfl<|Zy hs (Yk 0 rfl rF<|O_s (Sc (rwth_ok (x:=97) rfl rfl) hs rfl fun v1 G' H' _ hR hG9 hs=>?_)))))))
 obtain ⟨rfl,rfl⟩:=hR
 replace hs:=hs.n rfl
 refine O_n (Sw hs rfl (vs:=(List.map u64V (addF [0,0,0,0] 97))) rfl rfl (u64_all _) fun _ hs=>Wp 5 [0] hs rfl<|Zy hs (Y_quo (c:=0) rfl rfl dC dC dC<|Zy hs (Y_rem (c:=0) rfl rfl dC dC dC<|Wp 6 [0] hs rfl<|Zy hs (Yk 0 rfl rF<|O_n (Sw hs.f1 rfl (vs:=(List.map u64V (addF [0,0,0,0] 97))) rfl rfl (u64_all _) fun _ hs=>Wp 1 [0] hs rfl<|T_ret ?_)))))
 have hr:=hs
 refine Rt_fin (vs:=[_]) results59 rfl ⟨ResOk_blk 0 hr isAgg104 sizeOf104 rfl (cs:=(List.map u64V (addF [0,0,0,0] 97))) rfl rfl,trivial⟩ ?_
 try dsimp only [tup]
 exact ⟨_,[],hs.done,rfl,rfl⟩
theorem lett2_ok {G:Ghost} :
  FnOk prog 59 [Vi 2] G [] fun r _ H'=>H'=[]∧r=ClsV clB:=by
 refine FnOk.of_T [(0,_)] func59 rfl ntmps59 sM rfl fun w0 hs =>Wt 2 [] hs rfl<|O_s (S_alloc hs zeroValue104 (cs:=(List.map u64V [0,0,0,0])) rfl fun b2 _ hs =>Wp 3 [0] hs rfl<|Zy hs (Y_buildA underlying104 sizeOf102 zeroValue104 rfl rfl (cs:=[_,_,_,_]) rfl<|O_s (S_alloc hs zeroValue104 (cs:=(List.map u64V [0,0,0,0])) rfl fun b3 _ hs =>O_n (Sw hs rfl (vs:=(List.map u64V [0,0,0,0])) rfl rfl (u64_all _) fun _ hs=>Wp 5 [0] hs rfl<|Zy hs (Y_rem (c:=0) rfl rfl dC dC dC<|Wp 8 [0] hs rfl<|Zy hs (Y_quo (c:=1) rfl rfl dC dC dC<|Zy hs (Y_rem (c:=1) rfl rfl dC dC dC<|Wp 4 [0] hs rfl<|Zy hs (Yk 0 rfl rF<|O_s (Sc (rwth_ok (x:=98) rfl rfl) hs rfl fun v1 G' H' _ hR hG15 hs=>?_)))))))))
 obtain ⟨rfl,rfl⟩:=hR
 replace hs:=hs.n rfl
 refine O_n (Sw hs rfl (vs:=(List.map u64V (addF [0,0,0,0] 98))) rfl rfl (u64_all _) fun _ hs=>Wp 3 [0] hs rfl<|Zy hs (Yk 0 rfl rF<|O_n (Sw hs.f1 rfl (vs:=(List.map u64V (addF [0,0,0,0] 98))) rfl rfl (u64_all _) fun _ hs=>Wp 1 [0] hs rfl<|T_ret ?_)))
 have hr:=hs
 refine Rt_fin (vs:=[_]) results59 rfl ⟨ResOk_blk 0 hr isAgg104 sizeOf104 rfl (cs:=(List.map u64V (addF [0,0,0,0] 98))) rfl rfl,trivial⟩ ?_
 try dsimp only [tup]
 exact ⟨_,[],hs.done,rfl,rfl⟩
theorem lett3_ok {G:Ghost} :
  FnOk prog 59 [Vi 3] G [] fun r _ H'=>H'=[]∧r=ClsV clAB:=by
 refine FnOk.of_T [(0,_)] func59 rfl ntmps59 sM rfl fun w0 hs =>Wt 2 [] hs rfl<|O_s (S_alloc hs zeroValue104 (cs:=(List.map u64V [0,0,0,0])) rfl fun b2 _ hs =>Wp 3 [0] hs rfl<|Zy hs (Y_buildA underlying104 sizeOf102 zeroValue104 rfl rfl (cs:=[_,_,_,_]) rfl<|O_s (S_alloc hs zeroValue104 (cs:=(List.map u64V [0,0,0,0])) rfl fun b3 _ hs =>O_n (Sw hs rfl (vs:=(List.map u64V [0,0,0,0])) rfl rfl (u64_all _) fun _ hs=>Wp 5 [0] hs rfl<|Zy hs (Y_rem (c:=1) rfl rfl dC dC dC<|Wp 4 [0] hs rfl<|Zy hs (Yk 0 rfl rF<|O_s (Sc (rwth_ok (x:=97) rfl rfl) hs rfl fun v1 G' H' _ hR hG9 hs=>?_)))))))
 obtain ⟨rfl,rfl⟩:=hR
 replace hs:=hs.n rfl
 refine O_n (Sw hs rfl (vs:=(List.map u64V (addF [0,0,0,0] 97))) rfl rfl (u64_all _) fun _ hs=>Wp 5 [0] hs rfl<|Zy hs (Y_quo (c:=1) rfl rfl dC dC dC<|Zy hs (Y_rem (c:=1) rfl rfl dC dC dC<|Wp 4 [0] hs rfl<|Zy hs (Yk 0 rfl rF<|O_s (Sc (rwth_ok (x:=98) rfl rfl) hs rfl fun v2 G' H' _ hR hG15 hs=>?_)))))
 obtain ⟨rfl,rfl⟩:=hR
 replace hs:=hs.n rfl
 refine O_n (Sw hs rfl (vs:=(List.map u64V (addF (addF [0,0,0,0] 97) 98))) rfl rfl (u64_all _) fun _ hs=>Wp 3 [0] hs rfl<|Zy hs (Yk 0 rfl rF<|O_n (Sw hs.f1 rfl (vs:=(List.map u64V (addF (addF [0,0,0,0] 97) 98))) rfl rfl (u64_all _) fun _ hs=>Wp 1 [0] hs rfl<|T_ret ?_)))
 have hr:=hs
 refine Rt_fin (vs:=[_]) results59 rfl ⟨ResOk_blk 0 hr isAgg104 sizeOf104 rfl (cs:=(List.map u64V (addF (addF [0,0,0,0] 97) 98))) rfl rfl,trivial⟩ ?_
 try dsimp only [tup]
 exact ⟨_,[],hs.done,rfl,rfl⟩
theorem cls_four {c:List Nat} (h:c.length=4):∃ a b d e,c=[a,b,d,e]∧ClsV c=.agg #[u64V a,u64V b,u64V d,u64V e]:=by
  obtain ⟨a,b,d,e,rfl⟩:=four_of h
  exact ⟨a,b,d,e,rfl,rfl⟩
theorem noC_ok:ClsOk noC:=⟨rfl,by decide⟩
theorem clA_ok:ClsOk clA:=⟨by decide,by decide⟩
theorem clB_ok:ClsOk clB:=⟨by decide,by decide⟩
theorem clAB_ok:ClsOk clAB:=⟨by decide,by decide⟩
theorem rsom_ok {G:Ghost} {c:List Nat} (hc:ClsOk c) :
  FnOk prog 65 [ClsV c,Vi 0] G [] fun r G' H'=>H'=[]∧Rx G' r (starX c):=by
 obtain ⟨c0,c1,c2,c3,rfl,hcv⟩:=cls_four hc.1
 rw [hcv]
 refine FnOk.of_T [(0,_),(1,_)] func65 rfl ntmps65 sM rfl fun w0 hs =>Wt 2 [] hs rfl<|O_s (Sb hs rfl fun b2 _ hs=>Wp 5 [0,0] hs rfl<|Zy hs (Y_build zeroValue152 rfl PL152 rfl (cs:=[_,_,_,_,_,_,_,_,_]) rfl<|Wp 1 [] hs rfl<|Zy hs (Y_build zeroValue152 rfl PL152 rfl (cs:=[_,_,_,_,_,_,_,_,_]) rfl<|O_s (Se hs zeroValue152 rfl fun v1 _ hs _=>?_))))
 obtain ⟨_,hG9,hl9,hs⟩:=hs.fixRow noM
 refine Wp 2 [0] hs rfl<|T_ret<|Zz results65 rfl ?_
 exact ⟨_,[],hs.done,rfl,LstR.ofSl (cs:=[nodeC ⟨3,[c0,c1,c2,c3],0,0,0,0⟩,nodeC ⟨8,noC,0,0,0,-1⟩]) hl9 rfl rfl ⟨⟨rfl,hc⟩,⟨rfl,noC_ok⟩,trivial⟩ Z12⟩
theorem rany_ok {G:Ghost} :
  FnOk prog 64 [] G [] fun r G' H'=>H'=[]∧Rx G' r (starX clAB):=by
 refine FnOk.of_T [] func64 rfl ntmps64 sM rfl fun w0 hs =>Wt 6 [0] hs rfl<|O_s (Sc (lett3_ok) hs rfl fun v1 G' H' _ hR hG1 hs=>?_)
 obtain ⟨rfl,rfl⟩:=hR
 replace hs:=hs.n rfl
 refine O_s (Sc (rsom_ok clAB_ok) hs rfl fun v2 G' H' _ hR hG2 hs=>?_)
 obtain ⟨rfl,h2⟩:=hR
 replace hs:=hs.n rfl
 refine Wp 2 [0] hs rfl<|T_ret<|Zz results64 rfl ?_
 exact ⟨_,[],hs.done,rfl,h2⟩
theorem rexp_ok {G:Ghost} :
  FnOk prog 62 [Vi 0] G [] fun r G' H'=>H'=[]∧Rx G' r (starX clA):=by
 refine FnOk.of_T [(0,_)] func62 rfl ntmps62 sM rfl fun w0 hs =>Wt 8 [0] hs rfl<|Zy hs (Y_rem (c:=0) rfl rfl dC dC dC<|Wp 10 [0,0] hs rfl<|O_s (Sc (lett1_ok) hs rfl fun v1 G' H' _ hR hG7 hs=>?_))
 obtain ⟨rfl,rfl⟩:=hR
 replace hs:=hs.n rfl
 refine O_s (Sc (rsom_ok clA_ok) hs rfl fun v2 G' H' _ hR hG8 hs=>?_)
 obtain ⟨rfl,h8⟩:=hR
 replace hs:=hs.n rfl
 refine Wp 2 [0] hs rfl<|T_ret<|Zz results62 rfl ?_
 exact ⟨_,[],hs.done,rfl,h8⟩
theorem rop2_ok {G:Ghost} :
  FnOk prog 60 [Vi 2] G [] fun r G' H'=>H'=[]∧∃ A1 c1 A2 c2,r=.agg #[Vi 6,.slice A1 1 c1,.slice A2 1 c2]∧Bytes G' (.slice A1 1 c1) [97]∧Bytes G' (.slice A2 1 c2) [98]:=by
 refine FnOk.of_T [(0,_)] func60 rfl ntmps60 sM rfl fun w0 hs =>Wt 2 [] hs rfl<|O_s (Sa hs zeroValue101 rfl fun b2 _ hs=>Wp 5 [0] hs rfl<|Zy hs (Y_rem (c:=2) rfl rfl dC dC dC<|Wp 22 [0,0,0,0] hs rfl<|O_s (Se hs zeroValue5 rfl fun v1 _ hs _=>?_)))
 have hsN:=hs.fixRow noM
 clear hs
 obtain ⟨_,hG13,hl13,hs⟩:=hsN
 obtain ⟨A13,c13,rfl,_⟩:=id hl13
 refine O_s (Se hs zeroValue5 rfl fun v2 _ hs _=>?_)
 have hsN:=hs.fixRow noM
 clear hs
 obtain ⟨_,hG14,hl14,hs⟩:=hsN
 replace hl13:=hl13.mono hG14
 obtain ⟨A14,c14,rfl,_⟩:=id hl14
 refine Zy hs (Y_build zeroValue101 rfl PL101 rfl (cs:=[_,_,_]) rfl<|O_n (Sg hs rfl (rfl) fun _ hs=>Wp 1 [0] hs rfl<|T_ret<|Zz results60 (Rb 0 hs rfl rF) ?_))
 exact ⟨_,[],hs.done,rfl,_,_,_,_,rfl,hl13,hl14⟩
theorem rop3_ok {G:Ghost} :
  FnOk prog 60 [Vi 3] G [] fun r G' H'=>H'=[]∧∃ A1 c1,r=.agg #[Vi 5,.slice A1 1 c1,Vn]∧Bytes G' (.slice A1 1 c1) [98]:=by
 refine FnOk.of_T [(0,_)] func60 rfl ntmps60 sM rfl fun w0 hs =>Wt 2 [] hs rfl<|O_s (Sa hs zeroValue101 rfl fun b2 _ hs=>Wp 5 [0] hs rfl<|Zy hs (Y_rem (c:=3) rfl rfl dC dC dC<|Wp 28 [0,0,0,0,0] hs rfl<|O_s (Se hs zeroValue5 rfl fun v1 _ hs _=>?_)))
 have hsN:=hs.fixRow noM
 clear hs
 obtain ⟨_,hG18,hl18,hs⟩:=hsN
 obtain ⟨A18,c18,rfl,_⟩:=id hl18
 refine Zy hs (Y_build zeroValue101 rfl PL101 rfl (cs:=[_,_,_]) rfl<|O_n (Sg hs rfl (rfl) fun _ hs=>Wp 1 [0] hs rfl<|T_ret<|Zz results60 (Rb 0 hs rfl rF) ?_))
 exact ⟨_,[],hs.done,rfl,_,_,rfl,hl18⟩
theorem rfld0_ok {G:Ghost} {x:Int} :
  FnOk prog 91 [Vi 0,Vi x] G [] fun r _ H'=>H'=[]∧r=.agg #[Vi 13,Vi x,Vi 0,Vi 0,Vi 0,Vi 0,Vi 0,Vn,Vf,Vi 0,Vn,Vn,u64V 0,u64V 0,u64V 0,u64V 0,Vi 0,Vi 0,Vi 0,Vi 0,Vf,Vn,Vn,Vi 0,Vf,Vi 0,Vi 0,Vi 0,Vi 0,Vn,.string ⟨#[120]⟩,Vi (-1),Vi (-1)]:=by
 refine FnOk.of_T [(0,_),(1,_)] func91 rfl ntmps91 sM rfl fun w0 hs =>Wt 2 [] hs rfl<|O_s (Sa hs zeroValue114 rfl fun b4 _ hs=>Wp 3 [0] hs rfl<|O_s (Se hs zeroValue9 rfl fun v1 _ hs _=>?_))
 obtain ⟨_,hG5,hl5,hs⟩:=hs.fixRow noM
 refine Wp 1 [] hs rfl<|Zy hs (Y_rem (c:=0) rfl rfl dC dC dC<|Zy hs (Y_idx1 0 underlying79 sizeOf9 hl5 rfl rfl rfl rfl fun p8 hp8 =>Zy hs (Yg rfl (hp8)<|Wp 1 [] hs rfl<|Zy hs (Y_build zeroValue114 rfl PL114 rfl (cs:=[_,_,_,_,_,_,_,_,_,_,_,_,_,_,_,_,_,_,_,_,_,_,_,_,_,_,_,_,_,_,_,_,_]) rfl<|O_n (Sg hs rfl (rfl) fun _ hs=>Wp 1 [0] hs rfl<|T_ret<|Zz results91 (Rb 0 hs rfl rF) ?_)))))
 exact ⟨_,[],hs.done,rfl,rfl⟩
theorem rfld1_ok {G:Ghost} {x:Int} :
  FnOk prog 91 [Vi 1,Vi x] G [] fun r _ H'=>H'=[]∧r=.agg #[Vi 13,Vi x,Vi 0,Vi 0,Vi 0,Vi 0,Vi 0,Vn,Vf,Vi 0,Vn,Vn,u64V 0,u64V 0,u64V 0,u64V 0,Vi 0,Vi 0,Vi 0,Vi 0,Vf,Vn,Vn,Vi 0,Vf,Vi 0,Vi 0,Vi 0,Vi 0,Vn,.string ⟨#[121]⟩,Vi (-1),Vi (-1)]:=by
 refine FnOk.of_T [(0,_),(1,_)] func91 rfl ntmps91 sM rfl fun w0 hs =>Wt 2 [] hs rfl<|O_s (Sa hs zeroValue114 rfl fun b4 _ hs=>Wp 3 [0] hs rfl<|O_s (Se hs zeroValue9 rfl fun v1 _ hs _=>?_))
 obtain ⟨_,hG5,hl5,hs⟩:=hs.fixRow noM
 refine Wp 1 [] hs rfl<|Zy hs (Y_rem (c:=1) rfl rfl dC dC dC<|Zy hs (Y_idx1 1 underlying79 sizeOf9 hl5 rfl rfl rfl rfl fun p8 hp8 =>Zy hs (Yg rfl (hp8)<|Wp 1 [] hs rfl<|Zy hs (Y_build zeroValue114 rfl PL114 rfl (cs:=[_,_,_,_,_,_,_,_,_,_,_,_,_,_,_,_,_,_,_,_,_,_,_,_,_,_,_,_,_,_,_,_,_]) rfl<|O_n (Sg hs rfl (rfl) fun _ hs=>Wp 1 [0] hs rfl<|T_ret<|Zz results91 (Rb 0 hs rfl rF) ?_)))))
 exact ⟨_,[],hs.done,rfl,rfl⟩
theorem rrej_ok {G:Ghost} :
  FnOk prog 89 [Vi 0] G [] fun r _ H'=>H'=[]∧r=.agg #[Vi 14,Vi 0,Vi 0,Vi 0,Vi 0,Vi 1,Vi 0,Vn,Vf,Vi 0,Vn,Vn,u64V 0,u64V 0,u64V 0,u64V 0,Vi 0,Vi 0,Vi 0,Vi 0,Vf,Vn,Vn,Vi 0,Vf,Vi 0,Vi 0,Vi 0,Vi 0,Vn,.string ⟨[].toArray⟩,Vi (-1),Vi (-1)]:=by
 refine FnOk.of_T [(0,_)] func89 rfl ntmps89 sM rfl fun w0 hs =>Wt 2 [] hs rfl<|O_s (Sa hs zeroValue114 rfl fun b2 _ hs=>Wp 4 [0] hs rfl<|Zy hs (Y_rem (c:=0) rfl rfl dC dC dC<|Zy hs (Y_add (c:=1) rfl rfl dC dC<|Zy hs (Y_build zeroValue114 rfl PL114 rfl (cs:=[_,_,_,_,_,_,_,_,_,_,_,_,_,_,_,_,_,_,_,_,_,_,_,_,_,_,_,_,_,_,_,_,_]) rfl<|O_n (Sg hs rfl (rfl) fun _ hs=>Wp 1 [0] hs rfl<|T_ret<|Zz results89 (Rb 0 hs rfl rF) ?_)))))
 exact ⟨_,[],hs.done,rfl,rfl⟩
theorem all_one {l:List Value} (h:l.all (·.oneCell')=true):∀ y∈l,y.oneCell'=true:=fun y hy=>List.all_eq_true.1 h y hy
theorem byte_one (l:List UInt8):∀ y∈l.map byteV,y.oneCell'=true:=by
  intro y hy
  obtain ⟨s,_,rfl⟩:=List.mem_map.1 hy
  rfl
theorem int_one (l:List Int):∀ y∈l.map (Value.int .i64),y.oneCell'=true:=by
  intro y hy
  obtain ⟨s,_,rfl⟩:=List.mem_map.1 hy
  rfl
theorem flat_one {α:Type} {R:List Value→α→Prop} (hR:∀ c a,R c a→∀ y∈c,y.oneCell'=true):∀ {css:List (List Value)} {l:List α},All2 R css l→∀ y∈css.flatten,y.oneCell'=true
  | [],[],_,y,hy=>by cases hy
  | c::css,a::l,h,y,hy=>by
    rw [List.flatten_cons] at hy
    rcases List.mem_append.1 hy with hy | hy
    · exact hR c a h.1 y hy
    · exact flat_one hR h.2 y hy
  | [],_::_,h,_,_=>h.elim
  | _::_,[],h,_,_=>h.elim
theorem node_one {G:Ghost} {c:List Value} {n:NodeV} (h:NodeR G c n):∀ y∈c,y.oneCell'=true:=by
  rw [h.1]
  intro y hy
  unfold nodeC at hy
  simp only [List.cons_append,List.mem_cons,List.mem_append,List.mem_map,List.not_mem_nil,or_false] at hy
  rcases hy with rfl | ⟨_,_,rfl⟩ | rfl | rfl | rfl | rfl<;>rfl
theorem part_one {G:Ghost} {c:List Value} {p:PartM} (h:PartR G c p):∀ y∈c,y.oneCell'=true:=by
  obtain ⟨v,rfl,hv⟩:=h
  obtain ⟨A,k,rfl⟩:=LstR.slice hv
  exact all_one rfl
theorem flat2_at:∀ {css:List (List Value)} {j:Nat} {a b:Value},(∀ c∈css,c.length=2)→css[j]?=some [a,b]→css.flatten[j*2]?=some a
  | [],_,_,_,_,h=>by cases h
  | c::css,0,a,b,hk,h=>by
    injection h with h;subst h;rfl
  | c::css,j+1,a,b,hk,h=>by
    have hc:c.length=2:=hk c List.mem_cons_self
    rw [List.flatten_cons,show (j+1)*2=c.length+j*2 from by omega,List.getElem?_append_right (Nat.le_add_right _ _),Nat.add_sub_cancel_left]
    exact flat2_at (fun d hd=>hk d (List.mem_cons_of_mem _ hd)) h
theorem flat2_set:∀ {css:List (List Value)} {j:Nat} {a b u:Value},(∀ c∈css,c.length=2)→css[j]?=some [a,b]→css.flatten.set (j*2) u=(css.set j [u,b]).flatten
  | [],_,_,_,_,_,h=>by cases h
  | c::css,0,a,b,u,hk,h=>by
    injection h with h;subst h;rfl
  | c::css,j+1,a,b,u,hk,h=>by
    have hc:c.length=2:=hk c List.mem_cons_self
    rw [List.flatten_cons,show (j+1)*2=c.length+j*2 from by omega,List.set_append_right _ _ (Nat.le_add_right _ _),Nat.add_sub_cancel_left,List.set_cons_succ,List.flatten_cons]
    rw [flat2_set (fun d hd=>hk d (List.mem_cons_of_mem _ hd)) h]
theorem All2.set {α β:Type} {R:α→β→Prop}:∀ {l:List α} {m:List β} {i:Nat} {a:α},All2 R l m→(h:i<m.length)→R a m[i]→All2 R (l.set i a) m
  | [],[],_,_,_,h,_=>absurd h (Nat.not_lt_zero _)
  | x::l,y::m,0,a,h,_,ha=>⟨ha,h.2⟩
  | x::l,y::m,i+1,a,h,hi,ha=>⟨h.1,All2.set h.2 (by simpa using hi) (by simpa using ha)⟩
  | [],_::_,_,_,h,_,_=>h.elim
  | _::_,[],_,_,h,_,_=>h.elim
def szS (s:StmtM):Bool:=decide (s.b.length≤1000∧s.op.old.length≤1000∧s.op.new.length≤1000∧s.p.length≤1000∧s.ys.length≤1000∧s.cond.r.length≤1000) && s.p.all fun q=>decide (q.r.length≤1000)
def szP (p:ProgM):Bool:=decide (p.stmts.length≤1000∧p.blocks.length≤1000) && (p.stmts.all szS && p.blocks.all fun b=>decide (b.length≤1000))
theorem szS_iff {s:StmtM} (h:szS s=true):(s.b.length≤1000∧s.op.old.length≤1000∧s.op.new.length≤1000∧s.p.length≤1000∧s.ys.length≤1000∧s.cond.r.length≤1000)∧∀ q∈s.p,q.r.length≤1000:=by
  unfold szS at h
  simpa only [Bool.and_eq_true,decide_eq_true_eq,List.all_eq_true] using h
theorem szP_iff {p:ProgM} (h:szP p=true):(p.stmts.length≤1000∧p.blocks.length≤1000)∧(∀ s∈p.stmts,szS s=true)∧∀ b∈p.blocks,b.length≤1000:=by
  unfold szP at h
  simpa only [Bool.and_eq_true,decide_eq_true_eq,List.all_eq_true] using h
def LRowI (G:Ghost) (vs:List Value) (l:List (List Int)):Prop:=All2 (fun v r=>Ints G v r) vs l
theorem LRowI.mono {G G':Ghost} (h:G.le G') {vs:List Value} {l:List (List Int)} (hl:LRowI G vs l):LRowI G' vs l:=All2.mono (fun _ _ hn=>Ints.mono h hn) hl
theorem LRowI.snoc {G:Ghost} {vs:List Value} {l:List (List Int)} {v:Value} {r:List Int} (hl:LRowI G vs l) (h:Ints G v r):LRowI G (vs++[v]) (l++[r]):=All2.snoc hl h
theorem LRowI.fin {G:Ghost} {v:Value} {n:Nat} {vs:List Value} {l:List (List Int)} (h:Sl G v 1 n vs) (hn:n=l.length) (hl:LRowI G vs l):Rts G v l:=by
  refine LstR.ofSl (cs:=vs.map fun u=>[u]) h ?_ hn ?_ (by intro c hc;obtain ⟨u,_,rfl⟩:=List.mem_map.1 hc;rfl)
  · clear h hn hl
    induction vs with
    | nil=>rfl
    | cons u vs ih=>rw [List.map_cons,List.flatten_cons,← ih];rfl
  · clear h hn
    induction vs generalizing l with
    | nil=>cases l with
      | nil=>trivial
      | cons _ _=>exact hl.elim
    | cons u vs ih=>cases l with
      | nil=>exact hl.elim
      | cons r l=>exact ⟨⟨u,rfl,hl.1⟩,ih hl.2⟩
theorem eds_sl {G:Ghost} {v:Value} {q:List (Int×Int)} (h:Eds G v q):Sl G v 2 q.length (prL q):=by
  obtain ⟨cs,h1,h2,h5⟩:=h
  have:cs=q.map prC:=by
    clear h1 h5
    induction q generalizing cs with
    | nil=>cases cs with
      | nil=>rfl
      | cons _ _=>exact h2.elim
    | cons a q ih=>cases cs with
      | nil=>exact h2.elim
      | cons c cs =>
        obtain ⟨h3,h4⟩:=h2
        have h3':c=prC a:=h3
        rw [h3',ih _ h4,List.map_cons]
  rw [prL_cs,← this];exact h1
def AccS (G:Ghost) (css:List (List Value)) (l:List StmtM):Prop:=All2 (StR G) css l∧∀ c∈css,c.length=33
theorem AccS.mono {G G':Ghost} (h:G.le G') {css:List (List Value)} {l:List StmtM} (hl:AccS G css l):AccS G' css l:=⟨All2.mono (fun _ _ h2=>StR.mono h h2) hl.1,hl.2⟩
theorem AccS.snoc {G:Ghost} {css:List (List Value)} {l:List StmtM} {c:List Value} {a:StmtM} (hl:AccS G css l) (h:StR G c a) (hk:c.length=33):AccS G (css++[c]) (l++[a]) :=
  ⟨All2.snoc hl.1 h,fun d hd=>by rcases List.mem_append.1 hd with hd | hd;exact hl.2 d hd;rw [List.mem_singleton.1 hd];exact hk⟩
theorem AccS.fin {G:Ghost} {css:List (List Value)} {l:List StmtM} {v:Value} {n:Nat} (hl:AccS G css l) (h:Sl G v 33 n css.flatten) (hn:n=l.length):Sts G v l:=LstR.ofSl h rfl hn hl.1 hl.2
theorem AccS.len {G:Ghost} {css:List (List Value)} {l:List StmtM} (hl:AccS G css l):css.length=l.length:=All2.length hl.1
def AccP (G:Ghost) (css:List (List Value)) (l:List ProgM):Prop:=All2 (PgR G) css l∧∀ c∈css,c.length=2
theorem AccP.mono {G G':Ghost} (h:G.le G') {css:List (List Value)} {l:List ProgM} (hl:AccP G css l):AccP G' css l:=⟨All2.mono (fun _ _ h2=>PgR.mono h h2) hl.1,hl.2⟩
theorem AccP.snoc {G:Ghost} {css:List (List Value)} {l:List ProgM} {c:List Value} {a:ProgM} (hl:AccP G css l) (h:PgR G c a) (hk:c.length=2):AccP G (css++[c]) (l++[a]) :=
  ⟨All2.snoc hl.1 h,fun d hd=>by rcases List.mem_append.1 hd with hd | hd;exact hl.2 d hd;rw [List.mem_singleton.1 hd];exact hk⟩
theorem AccP.fin {G:Ghost} {css:List (List Value)} {l:List ProgM} {v:Value} {n:Nat} (hl:AccP G css l) (h:Sl G v 2 n css.flatten) (hn:n=l.length):Pgs G v l:=LstR.ofSl h rfl hn hl.1 hl.2
theorem AccP.len {G:Ghost} {css:List (List Value)} {l:List ProgM} (hl:AccP G css l):css.length=l.length:=All2.length hl.1
def AccN (G:Ghost) (css:List (List Value)) (l:List NodM):Prop:=All2 (NodR G) css l∧∀ c∈css,c.length=4
theorem AccN.mono {G G':Ghost} (h:G.le G') {css:List (List Value)} {l:List NodM} (hl:AccN G css l):AccN G' css l:=⟨All2.mono (fun _ _ h2=>NodR.mono h h2) hl.1,hl.2⟩
theorem AccN.snoc {G:Ghost} {css:List (List Value)} {l:List NodM} {c:List Value} {a:NodM} (hl:AccN G css l) (h:NodR G c a) (hk:c.length=4):AccN G (css++[c]) (l++[a]) :=
  ⟨All2.snoc hl.1 h,fun d hd=>by rcases List.mem_append.1 hd with hd | hd;exact hl.2 d hd;rw [List.mem_singleton.1 hd];exact hk⟩
theorem AccN.fin {G:Ghost} {css:List (List Value)} {l:List NodM} {v:Value} {n:Nat} (hl:AccN G css l) (h:Sl G v 4 n css.flatten) (hn:n=l.length):Nds G v l:=LstR.ofSl h rfl hn hl.1 hl.2
theorem AccN.len {G:Ghost} {css:List (List Value)} {l:List NodM} (hl:AccN G css l):css.length=l.length:=All2.length hl.1
def AccT (G:Ghost) (css:List (List Value)) (l:List PartM):Prop:=All2 (PartR G) css l∧∀ c∈css,c.length=2
theorem AccT.mono {G G':Ghost} (h:G.le G') {css:List (List Value)} {l:List PartM} (hl:AccT G css l):AccT G' css l:=⟨All2.mono (fun _ _ h2=>PartR.mono h h2) hl.1,hl.2⟩
theorem AccT.snoc {G:Ghost} {css:List (List Value)} {l:List PartM} {c:List Value} {a:PartM} (hl:AccT G css l) (h:PartR G c a) (hk:c.length=2):AccT G (css++[c]) (l++[a]) :=
  ⟨All2.snoc hl.1 h,fun d hd=>by rcases List.mem_append.1 hd with hd | hd;exact hl.2 d hd;rw [List.mem_singleton.1 hd];exact hk⟩
theorem AccT.fin {G:Ghost} {css:List (List Value)} {l:List PartM} {v:Value} {n:Nat} (hl:AccT G css l) (h:Sl G v 2 n css.flatten) (hn:n=l.length):Pat G v l:=LstR.ofSl h rfl hn hl.1 hl.2
theorem AccT.len {G:Ghost} {css:List (List Value)} {l:List PartM} (hl:AccT G css l):css.length=l.length:=All2.length hl.1
theorem ghostOf {c:Ctx} {G:Ghost} {H:List Res} {w:World} (_:St c G H w):∃ G1,G1=G:=⟨_,rfl⟩
theorem _root_.Go.Ex.Ghost.le.mono {a b c:Ghost} (h:a.le b) (h2:b.le c):a.le c:=h.trans h2
theorem flatK_at {k:Nat}:∀ {css:List (List Value)} {i:Nat} {c:List Value},(∀ c∈css,c.length=k)→css[i]?=some c→(css.flatten.drop (i*k)).take k=c
  | [],_,_,_,h=>by cases h
  | d::css,0,c,hk,h=>by
    injection h with h;subst h
    have:=hk d List.mem_cons_self
    rw [List.flatten_cons,Nat.zero_mul,List.drop_zero,List.take_left' this]
  | d::css,i+1,c,hk,h=>by
    have hd:=hk d List.mem_cons_self
    rw [List.flatten_cons,show (i+1)*k=d.length+i*k from by rw [hd,Nat.succ_mul];omega,List.drop_length_add_append]
    exact flatK_at (fun z hz=>hk z (List.mem_cons_of_mem _ hz)) h
theorem flatK_set {k:Nat} {u:Value}:∀ {css:List (List Value)} {i j:Nat} {c:List Value},(∀ c∈css,c.length=k)→css[i]?=some c→j<k→css.flatten.set (i*k+j) u=(css.set i (c.set j u)).flatten
  | [],_,_,_,_,h,_=>by cases h
  | d::css,0,j,c,hk,h,hj=>by
    injection h with h;subst h
    have:=hk d List.mem_cons_self
    rw [List.flatten_cons,List.set_cons_zero,List.flatten_cons,Nat.zero_mul,Nat.zero_add,List.set_append_left _ _ oM]
  | d::css,i+1,j,c,hk,h,hj=>by
    have hd:=hk d List.mem_cons_self
    rw [List.flatten_cons,List.set_cons_succ,List.flatten_cons,show (i+1)*k+j=d.length+(i*k+j) from by rw [hd,Nat.succ_mul];omega,List.set_append_right _ _ (Nat.le_add_right _ _),Nat.add_sub_cancel_left,flatK_set (fun z hz=>hk z (List.mem_cons_of_mem _ hz)) h hj]
theorem setK_len {k:Nat} {css:List (List Value)} {i:Nat} {e:List Value} (hk:∀ c∈css,c.length=k) (he:e.length=k):∀ c∈css.set i e,c.length=k:=fun c hc=>by
  rcases List.mem_or_eq_of_mem_set hc with h | h
  · exact hk c h
  · rw [h];exact he
theorem line_set {ds:List (List Value)} {i:Nat} {c e:List Value} {a b:Value} (hk:∀ c∈ds,c.length=33) (hd:ds[i]?=some c) (he:(c.set 31 a).set 32 b=e):(ds.flatten.set (i*33+31) a).set (i*33+32) b=(ds.set i e).flatten:=by
  have hi:=(List.getElem?_eq_some_iff.1 hd).1
  have hc:=hk c (List.mem_of_getElem? hd)
  rw [flatK_set hk hd dC,flatK_set (c:=c.set 31 a) (setK_len hk (by simpa using hc)) (List.getElem?_set_self hi) dC,List.set_set,he]
def lineS (s:StmtM):StmtM:={ s with thn:=-1,els:=-1 }
theorem All2.put {α β:Type} {R:α→β→Prop}:∀ {l:List α} {m:List β} {i:Nat} {a:α} {b:β},All2 R l m→R a b→All2 R (l.set i a) (m.set i b)
  | [],[],_,_,_,_,_=>trivial
  | x::l,y::m,0,a,b,h,ha=>⟨ha,h.2⟩
  | x::l,y::m,i+1,a,b,h,ha=>⟨h.1,All2.put h.2 ha⟩
  | [],_::_,_,_,_,h,_=>h.elim
  | _::_,[],_,_,_,h,_=>h.elim
def lnUp (ss:List StmtM) (i:Nat):List StmtM:=(ss.take i).map lineS++ss.drop i
theorem lnUp_at {ss:List StmtM} {i:Nat} (h:i<ss.length):(lnUp ss i)[i]?=some ss[i]:=by
  unfold lnUp
  rw [List.getElem?_append_right (by rw [List.length_map,List.length_take];omega),List.length_map,List.length_take,Nat.min_eq_left oM,Nat.sub_self,List.getElem?_drop,Nat.add_zero,List.getElem?_eq_getElem h]
theorem lnUp_succ {ss:List StmtM} {i:Nat} (h:i<ss.length):lnUp ss (i+1)=(lnUp ss i).set i (lineS ss[i]):=by
  unfold lnUp
  rw [take_succ' h,List.map_append,List.set_append_right _ _ (by rw [List.length_map,List.length_take];omega),List.length_map,List.length_take,Nat.min_eq_left oM,Nat.sub_self,List.drop_eq_getElem_cons h,List.set_cons_zero,List.append_assoc];rfl
theorem AccS.put {G:Ghost} {css:List (List Value)} {l:List StmtM} {i:Nat} {c:List Value} {s:StmtM} (h:AccS G css l) (hc:StR G c s):AccS G (css.set i c) (l.set i s):=⟨All2.put h.1 hc,setK_len h.2 hc.len⟩
theorem lnStep {G:Ghost} {ds:List (List Value)} {ss:List StmtM} {i:Nat} {e:List Value} {sm:StmtM} (hD:AccS G ds (lnUp ss i)) (hi:i<ss.length) (hsm:sm=ss[i]) (he:StR G e (lineS sm)):AccS G (ds.set i e) (lnUp ss (i+1)):=by
  rw [lnUp_succ hi,← hsm];exact hD.put he
theorem AccS.at_ {G:Ghost} {css:List (List Value)} {l:List StmtM} {i:Nat} {s:StmtM} (h:AccS G css l) (hs:l[i]?=some s):∃ c,css[i]?=some c∧StR G c s:=by
  obtain ⟨hi,rfl⟩:=List.getElem?_eq_some_iff.1 hs
  exact All2.get i h.1 hi
theorem rlin_ok {G:Ghost} {b n:Nat} {css:List (List Value)} {ss:List StmtM} (hn:ss.length=n) (h1:1≤n) (h2:n≤100) (hA:AccS G css ss) :
  FnOk prog 57 [(Vs b n n)] G [.row 114 33 (Vs b n n) n css.flatten] fun r G' H'=>∃ vs vb es u,r=.agg #[vs,vb]∧AccS G' es (ss.map lineS)∧Nats G' u (List.range n)∧H'=[.row 114 33 vs n es.flatten,.row 45 1 vb 1 [u]]:=by
 refine FnOk.of_T [(0,_)] func57 rfl ntmps57 sM rfl fun w0 hs=>?_
 have hA0:=hA
 have hM0:=hs.feetLt
 refine Wt 2 [] hs rfl<|O_s (Sa hs zeroValue70 rfl fun b2 _ hs=>Wp 3 [0] hs rfl<|O_s (Se hs zeroValue3 rfl fun v1 _ hs shl=>?_))
 obtain ⟨bl5,rfl⟩:=shl
 refine O_s (Se hs zeroValue45 rfl fun v2 _ hs shl=>?_)
 obtain ⟨bl6,rfl⟩:=shl
 refine Zy hs (Y_build zeroValue70 rfl PL70 rfl (cs:=[_,_]) rfl<|O_s (Sa hs zeroValue70 rfl fun b3 _ hs=>O_n (Sg hs rfl (by simp only [List.all_cons,List.all_nil,hs.rowOne 1 rfl];rfl) fun _ hs=>Wp 6 [0,0] hs rfl ?_)))
 have hs:=hs.nilRow 114 33
 have hs:=hs.f4.f5.f3.f4.f5.f5
 refine Zl [0,2,3,4] (fun m E w=>∃ (i:Nat) (ds es:List (List Value)) (vs vb x:Value) (G2:Ghost),i≤n∧AccS G2 ds (lnUp ss i)∧AccS G2 es ((ss.take i).map lineS)∧m=n-i∧E=⟨[],[(0,(Vs b n n)),(2,Vp b2),(3,Vp b3),(4,Vi (i:Int))]⟩∧St ⟨w0,G,feet [.row 114 33 (Vs b n n) n css.flatten]⟩ G2 [.row 114 33 vs i es.flatten,.row 3 1 x i ((List.range i).map natV),.row 45 1 vb 1 [x],.blk b3 70 [vs,vb],.row 114 33 (Vs b n n) n ds.flatten,.blk b2 70 [Vn,Vn]] w) rfl (⟨0,css,[],_,_,_,_,by omega,hA,⟨trivial,by simp⟩,rfl,rfl,hs⟩) fun m E w hI=>?_
 obtain ⟨i,ds,es,vs,vb,x,G2,hi,hD,hE,rfl,rfl,hs⟩:=hI
 refine Wt 6 [] hs rfl<|Zy hs (Yc rfl (fun h11=>?_) fun h11=>?_)
 ·
  refine Wp 3 [0] hs rfl ?_
  obtain ⟨sm,hsm⟩:∃ z,z=ss[i]'oM:=⟨_,rfl⟩
  obtain ⟨c0,hdi,hsr⟩:=hD.at_ (lnUp_at (ss:=ss) (i:=i) oM)
  rw [← hsm] at hsr
  obtain ⟨wb,wo,wn,wp,wy,wr,rfl,⟨hb8,nb⟩,⟨ho8,no⟩,⟨hn8,nn⟩,⟨hp8,np⟩,⟨hy8,ny⟩,⟨hr8,nr⟩⟩:=hsr
  obtain ⟨Ab1,cb1,rfl,_⟩:=id hb8
  obtain ⟨Ao1,co1,rfl,_⟩:=id ho8
  obtain ⟨An1,cn1,rfl,_⟩:=id hn8
  obtain ⟨Ap1,cp1,rfl⟩:=LstR.slice hp8
  obtain ⟨Ay1,cy1,rfl,_⟩:=id hy8
  obtain ⟨Ar1,cr1,rfl⟩:=LstR.slice hr8
  refine Wu 6 [] hs rfl<|Zy hs (Y_idxRowK (i) underlying68 sizeOf114 rfl rfl rfl oM<|Zy hs (Yf (i * 33+31) rfl<|O_n (S_stRowC hs.f4 sizeOf3 rfl rfl rfl oM fun _ hs =>Wp 5 [0] hs rfl<|Zy hs (Y_idxRowK (i) underlying68 sizeOf114 rfl rfl rfl oM<|Zy hs (Yf (i * 33+32) rfl<|O_n (S_stRowC hs sizeOf3 rfl rfl rfl oM fun _ hs=>?_))))))
  rw [line_set (e:=[Vi sm.kind,Vi sm.x,Vi sm.y,Vi sm.z,Vi sm.n,Vi sm.i,Vi sm.j,.slice Ab1 sm.b.length cb1,.bool sm.last,Vi sm.op.kind,.slice Ao1 sm.op.old.length co1,.slice An1 sm.op.new.length cn1,u64V sm.c0,u64V sm.c1,u64V sm.c2,u64V sm.c3,Vi sm.rule.base,Vi sm.rule.digits,Vi sm.rule.top,Vi sm.rule.over,.bool sm.rule.zeros,.slice Ap1 sm.p.length cp1,.slice Ay1 sm.ys.length cy1,Vi sm.cond.kind,.bool sm.cond.neg,Vi sm.cond.x,Vi sm.cond.y,Vi sm.cond.n,Vi sm.cond.k,.slice Ar1 sm.cond.r.length cr1,strV sm.name,Vi (-1),Vi (-1)]) hD.2 hdi rfl] at hs
  refine Wp 1 [0] hs rfl ?_
  have hD2:=lnStep (e:=[Vi sm.kind,Vi sm.x,Vi sm.y,Vi sm.z,Vi sm.n,Vi sm.i,Vi sm.j,.slice Ab1 sm.b.length cb1,.bool sm.last,Vi sm.op.kind,.slice Ao1 sm.op.old.length co1,.slice An1 sm.op.new.length cn1,u64V sm.c0,u64V sm.c1,u64V sm.c2,u64V sm.c3,Vi sm.rule.base,Vi sm.rule.digits,Vi sm.rule.top,Vi sm.rule.over,.bool sm.rule.zeros,.slice Ap1 sm.p.length cp1,.slice Ay1 sm.ys.length cy1,Vi sm.cond.kind,.bool sm.cond.neg,Vi sm.cond.x,Vi sm.cond.y,Vi sm.cond.n,Vi sm.cond.k,.slice Ar1 sm.cond.r.length cr1,strV sm.name,Vi (-1),Vi (-1)]) hD oM hsm ⟨_,_,_,_,_,_,rfl,⟨hb8,nb⟩,⟨ho8,no⟩,⟨hn8,nn⟩,⟨hp8,np⟩,⟨hy8,ny⟩,⟨hr8,nr⟩⟩
  have hdi2:(ds.set i [Vi sm.kind,Vi sm.x,Vi sm.y,Vi sm.z,Vi sm.n,Vi sm.i,Vi sm.j,.slice Ab1 sm.b.length cb1,.bool sm.last,Vi sm.op.kind,.slice Ao1 sm.op.old.length co1,.slice An1 sm.op.new.length cn1,u64V sm.c0,u64V sm.c1,u64V sm.c2,u64V sm.c3,Vi sm.rule.base,Vi sm.rule.digits,Vi sm.rule.top,Vi sm.rule.over,.bool sm.rule.zeros,.slice Ap1 sm.p.length cp1,.slice Ay1 sm.ys.length cy1,Vi sm.cond.kind,.bool sm.cond.neg,Vi sm.cond.x,Vi sm.cond.y,Vi sm.cond.n,Vi sm.cond.k,.slice Ar1 sm.cond.r.length cr1,strV sm.name,Vi (-1),Vi (-1)])[i]?=some [Vi sm.kind,Vi sm.x,Vi sm.y,Vi sm.z,Vi sm.n,Vi sm.i,Vi sm.j,.slice Ab1 sm.b.length cb1,.bool sm.last,Vi sm.op.kind,.slice Ao1 sm.op.old.length co1,.slice An1 sm.op.new.length cn1,u64V sm.c0,u64V sm.c1,u64V sm.c2,u64V sm.c3,Vi sm.rule.base,Vi sm.rule.digits,Vi sm.rule.top,Vi sm.rule.over,.bool sm.rule.zeros,.slice Ap1 sm.p.length cp1,.slice Ay1 sm.ys.length cy1,Vi sm.cond.kind,.bool sm.cond.neg,Vi sm.cond.x,Vi sm.cond.y,Vi sm.cond.n,Vi sm.cond.k,.slice Ar1 sm.cond.r.length cr1,strV sm.name,Vi (-1),Vi (-1)]:=List.getElem?_set_self (List.getElem?_eq_some_iff.1 hdi).1
  refine Wu 1 [] hs rfl<|T_drawS [0,1,2,3,4,5,6] hs kR ?_
  replace hs:=hs.drew
  refine Xr [0,1,2,3] [0,4] hs rfl<|Xt 4 hs rfl (Y_idxRowK (i) underlying68 sizeOf114 rfl rfl rfl oM<|Xt 5 hs rfl (Y_ldRowK (i:=i) (vs:=[Vi sm.kind,Vi sm.x,Vi sm.y,Vi sm.z,Vi sm.n,Vi sm.i,Vi sm.j,.slice Ab1 sm.b.length cb1,.bool sm.last,Vi sm.op.kind,.slice Ao1 sm.op.old.length co1,.slice An1 sm.op.new.length cn1,u64V sm.c0,u64V sm.c1,u64V sm.c2,u64V sm.c3,Vi sm.rule.base,Vi sm.rule.digits,Vi sm.rule.top,Vi sm.rule.over,.bool sm.rule.zeros,.slice Ap1 sm.p.length cp1,.slice Ay1 sm.ys.length cy1,Vi sm.cond.kind,.bool sm.cond.neg,Vi sm.cond.x,Vi sm.cond.y,Vi sm.cond.n,Vi sm.cond.k,.slice Ar1 sm.cond.r.length cr1,strV sm.name,Vi (-1),Vi (-1)]) 0 rfl isAgg114 sizeOf114 rfl oM (flatK_at hD2.2 hdi2) rfl ?_))
  have hle:=hs.le
  refine Xo 6 rfl (S_litKF hs hM0 underlying68 sizeOf114 zeroValue114 kR kR kR rfl (es:=[[_,_,_,_,_,_,_,_,_,_,_,_,_,_,_,_,_,_,_,_,_,_,_,_,_,_,_,_,_,_,_,_,_]]) rfl rfl fun v3 _ _ hG28 hl28 hs=>?_)
  replace hE:=hE.mono hG28
  replace hb8:=hb8.mono hG28
  replace ho8:=ho8.mono hG28
  replace hn8:=hn8.mono hG28
  replace hp8:=hp8.mono hG28
  replace hy8:=hy8.mono hG28
  replace hr8:=hr8.mono hG28
  replace hD2:=hD2.mono hG28
  refine A_moreS hs hle hG28 (List.Sublist.refl _)<|Xa 7 rfl (S_append hs.f1 underlying68 TI114 rfl dC rfl rfl (hl28) ((all_one rfl)) oM oM fun v4 _ hs =>Xa 8 rfl (S_y hs rfl (Yf 0 rfl<|Xn 9 rfl (Sd hs.f4 rfl (hs.f4.rowOne 1 rfl) fun _ hs=>Xe (Zk [0,2,3,4] rfl ?_)))))
  obtain ⟨bv,cv,rfl,_⟩:=hs.rowForm 4 rfl dC
  have hs:=hs.f3
  have hsW:=hs.drop
  refine T_drawS [0,1,2,3,4,5,6,7,8,9] hsW kR ?_
  replace hs:=hs.drew
  replace hsW:=hsW.drew
  refine Xr [0,1,2,3] [1,0,1,0] hsW rfl<|Xt 4 hsW rfl (Y_idxRow (0) underlying36 sizeOf45 rfl rfl rfl oM<|Xt 5 hsW rfl (Y_ldRow 3 rfl isAgg45 rfl (rfl)<|Xr [6] [] hsW rfl ?_))
  have hle:=hs.le
  refine Xo 7 rfl (S_litF hs hM0 underlying45 sizeOf3 zeroValue3 rfl rfl dC dC rfl (cs:=[_]) rfl rfl fun v5 _ _ hG38 hl38 hs=>?_)
  replace hE:=hE.mono hG38
  replace hb8:=hb8.mono hG38
  replace ho8:=ho8.mono hG38
  replace hn8:=hn8.mono hG38
  replace hp8:=hp8.mono hG38
  replace hy8:=hy8.mono hG38
  replace hr8:=hr8.mono hG38
  replace hD2:=hD2.mono hG38
  have hsW:=hs.drop
  refine A_moreS hsW hle hG38 (List.Sublist.refl _) ?_
  have hle:=hs.le
  refine Xo 8 rfl (S_append hs underlying45 TI3 rfl dC rfl rfl (hl38) (one1 rfl) oM oM fun v6 _ hs=>?_)
  have hsW:=hs.drop
  refine A_moreS hsW hle (Ghost.le.refl _) (List.Sublist.refl _)<|Xt 9 hsW rfl (Y_idxRow (0) underlying36 sizeOf45 rfl rfl rfl oM<|Xn 10 rfl (S_stRow hs.f4 sizeOf45 rfl rfl (hs.f4.rowOne 1 rfl) oM fun _ hs =>Xe (Zk [0,2,3,4] rfl<|Wu 2 [] hs rfl<|Zy hs (Ya (s:=((i+1:Nat):Int)) rfl<|Wp 1 [] hs rfl ?_))))
  have hs:=hs.f5.f5.f4.f3.f4.f5
  refine Zx [0,2,3,4] rfl ⟨i+1,_,es++[[Vi sm.kind,Vi sm.x,Vi sm.y,Vi sm.z,Vi sm.n,Vi sm.i,Vi sm.j,.slice Ab1 sm.b.length cb1,.bool sm.last,Vi sm.op.kind,.slice Ao1 sm.op.old.length co1,.slice An1 sm.op.new.length cn1,u64V sm.c0,u64V sm.c1,u64V sm.c2,u64V sm.c3,Vi sm.rule.base,Vi sm.rule.digits,Vi sm.rule.top,Vi sm.rule.over,.bool sm.rule.zeros,.slice Ap1 sm.p.length cp1,.slice Ay1 sm.ys.length cy1,Vi sm.cond.kind,.bool sm.cond.neg,Vi sm.cond.x,Vi sm.cond.y,Vi sm.cond.n,Vi sm.cond.k,.slice Ar1 sm.cond.r.length cr1,strV sm.name,Vi (-1),Vi (-1)]],v4,(Vs bv 1 cv),v6,_,by omega,hD2,(by rw [take_succ' oM,← hsm,List.map_append];exact hE.snoc ⟨_,_,_,_,_,_,rfl,⟨hb8,nb⟩,⟨ho8,no⟩,⟨hn8,nn⟩,⟨hp8,np⟩,⟨hy8,ny⟩,⟨hr8,nr⟩⟩ rfl),rfl,rfl,castH (hs.weak hs.le (Ghost.le.refl _) (List.sublist_append_left [_,_,_,_,_,_] _)) (by simp [List.range_succ])⟩
 refine Wp 3 [0] hs rfl ?_
 obtain rfl:i=n:=by omega
 rw [List.take_of_length_le oM] at hE
 refine Wu 3 [3] hs rfl<|O_n (Sg hs.f5 rfl (by simp only [List.all_cons,List.all_nil,hs.f5.rowOne 1 rfl,hs.f5.rowOne 3 rfl];rfl) fun _ hs=>Wp 1 [0] hs rfl<|T_ret ?_)
 have hs:=hs.f2
 obtain ⟨_,hG_hfx,hfx,hs⟩:=hs.fixRow (noMr 4 hs rfl)
 replace hE:=hE.mono hG_hfx
 have hs:=hs.f2.f2
 refine Zz results57 (Rb 2 hs rfl rF) ?_
 exact ⟨_,_,hs.weak hs.le (Ghost.le.refl _) (List.sublist_append_left [_,_] _),_,_,es,_,rfl,hE,(by simpa [Nats] using hfx),rfl⟩
theorem PL38:places prog 38=some [(0,1),(1,1),(2,1),(3,1)]:=by kernel_rfl
theorem TI122:TI prog 122 (.agg #[Vn,Vf]) 2 32:=TI.of kR
theorem TI152:TI prog 152 (.agg #[Vi 0,.int .u64 0,.int .u64 0,.int .u64 0,.int .u64 0,Vi 0,Vi 0,Vi 0,Vi 0]) 9 72:=TI.of kR
theorem TI61:TI prog 61 (.agg #[Vn,Vi 0,Vi 0,Vf]) 4 48:=TI.of kR
theorem TI70:TI prog 70 (.agg #[Vn,Vn]) 2 48:=TI.of kR
theorem castR {c:Ctx} {G:Ghost} {H:List Res} {w:World} {e k n:Nat} {v:Value} {xs ys:List Value} (hs:St c G (.row e k v n xs::H) w) (h:xs=ys):St c G (.row e k v n ys::H) w:=h▸hs
theorem clne_ok {v:Value} {G:Ghost} {n:Nat} {xs:List Value} (hx:Sl G v 2 n xs) (h1:∀ y∈xs,y.oneCell'=true) (hn:n≤100000) :
  FnOk prog 84 [v] G [] fun r G' H'=>H'=[]∧Sl G' r 2 n xs∧(v=Vn→r=Vn):=by
 obtain ⟨A,cap,rfl,hl'⟩:=id hx
 refine FnOk.of_T [(0,_)] func84 rfl ntmps84 sM rfl fun w0 hs=>?_
 have hx0:=hx
 refine Wt 8 [0] hs rfl<|Zy hs (Y_nilS underlying35 rfl rfl (fun h4=>?_) (fun h4=>?_))
 ·
  refine Wp 6 [0,0] hs rfl<|T_ret<|Zz results84 rfl ?_
  have hn0:n=0:=Sl.nil_of (h4▸hx)
  subst hn0
  have hxs:xs=[]:=List.eq_nil_of_length_eq_zero (by simpa using hl'.1)
  subst hxs
  exact ⟨_,[],hs.done,rfl,Sl.nil _ _,fun _=>rfl⟩
 refine Wp 5 [0] hs rfl<|O_s (Se hs zeroValue31 rfl fun v1 _ hs _=>Wp 1 [] hs rfl<|O_s (S_append hs underlying35 TI31 rfl dC rfl rfl (hx) (h1) oM oM fun v2 _ hs =>Wp 2 [0] hs rfl<|T_ret<|Zz results84 rfl ?_))
 obtain ⟨G',hG,hf,hs3⟩:=hs.fixRow noM
 exact ⟨G',[],hs3,rfl,by simpa using hf,fun h=>absurd (by injection h) h4⟩
theorem clnb_ok {v:Value} {G:Ghost} {n:Nat} {xs:List Value} (hx:Sl G v 1 n xs) (h1:∀ y∈xs,y.oneCell'=true) (hn:n≤100000) :
  FnOk prog 85 [v] G [] fun r G' H'=>H'=[]∧Sl G' r 1 n xs∧(v=Vn→r=Vn):=by
 obtain ⟨A,cap,rfl,hl'⟩:=id hx
 refine FnOk.of_T [(0,_)] func85 rfl ntmps85 sM rfl fun w0 hs=>?_
 have hx0:=hx
 refine Wt 8 [0] hs rfl<|Zy hs (Y_nilS underlying99 rfl rfl (fun h4=>?_) (fun h4=>?_))
 ·
  refine Wp 6 [0,0] hs rfl<|T_ret<|Zz results85 rfl ?_
  have hn0:n=0:=Sl.nil_of (h4▸hx)
  subst hn0
  have hxs:xs=[]:=List.eq_nil_of_length_eq_zero (by simpa using hl'.1)
  subst hxs
  exact ⟨_,[],hs.done,rfl,Sl.nil _ _,fun _=>rfl⟩
 refine Wp 5 [0] hs rfl<|O_s (Se hs zeroValue5 rfl fun v1 _ hs _=>Wp 1 [] hs rfl<|O_s (S_append hs underlying99 TI5 rfl dC rfl rfl (hx) (h1) oM oM fun v2 _ hs =>Wp 2 [0] hs rfl<|T_ret<|Zz results85 rfl ?_))
 obtain ⟨G',hG,hf,hs3⟩:=hs.fixRow noM
 exact ⟨G',[],hs3,rfl,by simpa using hf,fun h=>absurd (by injection h) h4⟩
theorem clns_ok {v:Value} {G:Ghost} {n:Nat} {xs:List Value} (hx:Sl G v 1 n xs) (h1:∀ y∈xs,y.oneCell'=true) (hn:n≤100000) :
  FnOk prog 52 [v] G [] fun r G' H'=>H'=[]∧Sl G' r 1 n xs∧(v=Vn→r=Vn):=by
 obtain ⟨A,cap,rfl,hl'⟩:=id hx
 refine FnOk.of_T [(0,_)] func52 rfl ntmps52 sM rfl fun w0 hs=>?_
 have hx0:=hx
 refine Wt 8 [0] hs rfl<|Zy hs (Y_nilS underlying45 rfl rfl (fun h4=>?_) (fun h4=>?_))
 ·
  refine Wp 6 [0,0] hs rfl<|T_ret<|Zz results52 rfl ?_
  have hn0:n=0:=Sl.nil_of (h4▸hx)
  subst hn0
  have hxs:xs=[]:=List.eq_nil_of_length_eq_zero (by simpa using hl'.1)
  subst hxs
  exact ⟨_,[],hs.done,rfl,Sl.nil _ _,fun _=>rfl⟩
 refine Wp 5 [0] hs rfl<|O_s (Se hs zeroValue3 rfl fun v1 _ hs _=>Wp 1 [] hs rfl<|O_s (S_append hs underlying45 TI3 rfl dC rfl rfl (hx) (h1) oM oM fun v2 _ hs =>Wp 2 [0] hs rfl<|T_ret<|Zz results52 rfl ?_))
 obtain ⟨G',hG,hf,hs3⟩:=hs.fixRow noM
 exact ⟨G',[],hs3,rfl,by simpa using hf,fun h=>absurd (by injection h) h4⟩
theorem clnp_ok {v:Value} {G:Ghost} {n:Nat} {xs:List Value} (hx:Sl G v 2 n xs) (h1:∀ y∈xs,y.oneCell'=true) (hn:n≤100000) :
  FnOk prog 86 [v] G [] fun r _ H'=>H'=[.row 122 2 r n xs]∧(v=Vn→r=Vn):=by
 obtain ⟨A,cap,rfl,hl'⟩:=id hx
 refine FnOk.of_T [(0,_)] func86 rfl ntmps86 sM rfl fun w0 hs=>?_
 have hx0:=hx
 refine Wt 8 [0] hs rfl<|Zy hs (Y_nilS underlying108 rfl rfl (fun h4=>?_) (fun h4=>?_))
 ·
  refine Wp 6 [0,0] hs rfl<|T_ret<|Zz results86 rfl ?_
  have hn0:n=0:=Sl.nil_of (h4▸hx)
  subst hn0
  have hxs:xs=[]:=List.eq_nil_of_length_eq_zero (by simpa using hl'.1)
  subst hxs
  have hs:=hs.done.nilRow 122 2
  exact ⟨_,_,hs,rfl,fun _=>rfl⟩
 refine Wp 5 [0] hs rfl<|O_s (Se hs zeroValue122 rfl fun v1 _ hs _=>Wp 1 [] hs rfl<|O_s (S_append hs underlying108 TI122 rfl dC rfl rfl (hx) (h1) oM oM fun v2 _ hs =>Wp 2 [0] hs rfl<|T_ret<|Zz results86 rfl ?_))
 have hz:=hs
 rw [Nat.zero_add] at hz
 exact ⟨_,_,hz,rfl,fun h=>absurd (by injection h) h4⟩
theorem clnx_ok {v:Value} {G:Ghost} {n:Nat} {xs:List Value} (hx:Sl G v 9 n xs) (h1:∀ y∈xs,y.oneCell'=true) (hn:n≤100000) :
  FnOk prog 87 [v] G [] fun r G' H'=>H'=[]∧Sl G' r 9 n xs∧(v=Vn→r=Vn):=by
 obtain ⟨A,cap,rfl,hl'⟩:=id hx
 refine FnOk.of_T [(0,_)] func87 rfl ntmps87 sM rfl fun w0 hs=>?_
 have hx0:=hx
 refine Wt 8 [0] hs rfl<|Zy hs (Y_nilS underlying110 rfl rfl (fun h4=>?_) (fun h4=>?_))
 ·
  refine Wp 6 [0,0] hs rfl<|T_ret<|Zz results87 rfl ?_
  have hn0:n=0:=Sl.nil_of (h4▸hx)
  subst hn0
  have hxs:xs=[]:=List.eq_nil_of_length_eq_zero (by simpa using hl'.1)
  subst hxs
  exact ⟨_,[],hs.done,rfl,Sl.nil _ _,fun _=>rfl⟩
 refine Wp 5 [0] hs rfl<|O_s (Se hs zeroValue152 rfl fun v1 _ hs _=>Wp 1 [] hs rfl<|O_s (S_append hs underlying110 TI152 rfl dC rfl rfl (hx) (h1) oM oM fun v2 _ hs =>Wp 2 [0] hs rfl<|T_ret<|Zz results87 rfl ?_))
 obtain ⟨G',hG,hf,hs3⟩:=hs.fixRow noM
 exact ⟨G',[],hs3,rfl,by simpa using hf,fun h=>absurd (by injection h) h4⟩
theorem fcop_ok {G:Ghost} {Ap An Ae Ar:Option Addr} {cp cn ce cr:Nat} {f:FltM} (hf:FltC G Ap An Ae Ar cp cn ce cr f) (hz:FSz f) (hsz:∀ p∈f.progs,szP p=true) (hpl:f.progs.length≤1000) (hrl:f.routes.length≤1000) :
  FnOk prog 55 [(.agg (fltL Ap An Ae Ar cp cn ce cr f).toArray)] G [] fun r G' H'=>∃ vp vn ve vr css,r=.agg #[vp,vn,ve,vr]∧Pgs G' vp f.progs∧Eds G' ve f.edges∧Rts G' vr f.routes∧AccN G' css f.nodes∧H'=[.row 61 4 vn f.nodes.length css.flatten]:=by
 have hez:=hz.e
 have hnz:=hz.n
 show FnOk _ _ [.agg #[.slice Ap f.progs.length cp,.slice An f.nodes.length cn,.slice Ae f.edges.length ce,.slice Ar f.routes.length cr]] _ _ _
 refine FnOk.of_T [(0,_)] func55 rfl ntmps55 sM rfl fun w0 hs=>?_
 have hf0:=hf
 refine Wt 2 [] hs rfl<|O_s (Sb hs rfl fun b1 _ hs=>O_s (Sa hs zeroValue38 rfl fun b2 _ hs=>Wp 1 [0] hs rfl ?_))
 have hs:=hs.f1
 obtain ⟨_,hGbhQ1,hQ1,hs⟩:=hs.fixBlk (fun k _=>noMb k)
 replace hf:=hf.mono hGbhQ1
 replace hQ1:BlkAt _ b1 _:=hQ1
 refine Wu 3 [2] hs rfl<|Zy hs (Yg rfl (hQ1 2 _ rfl)<|O_s (Sc (clne_ok (eds_sl hf.e) (prL_one _) oM) hs rfl fun v1 G' H' _ hR hG18 hs=>?_))
 obtain ⟨rfl,hE18,_⟩:=hR
 replace hs:=hs.n rfl
 replace hf:=hf.mono hG18
 replace hQ1:=hQ1.mono hG18
 obtain ⟨A18,c18,rfl,_⟩:=id hE18
 refine Zy hs (Y_build zeroValue38 rfl PL38 rfl (cs:=[_,_,_,_]) rfl<|O_s (Sa hs zeroValue38 rfl fun b3 _ hs=>O_n (S_stA hs sizeOf38 rfl rfl (vs:=[_,_,_,_]) rfl (rfl) sM (cs':=[_,_,_,_]) rfl fun _ hs =>Wp 5 [0,0] hs rfl<|Zy hs (Yg rfl (hQ1 0 _ rfl)<|Wp 3 [0] hs rfl ?_))))
 obtain ⟨Gq1,rfl⟩:=ghostOf hs
 have hs:=hs.nilRow 70 2
 have hs:=hs.f2.f2.f2
 refine Zl [1,2,3,21,22,23] (fun m E w=>∃ (k:Nat) (vp:Value) (pcs:List (List Value)) (G2:Ghost),k≤f.progs.length∧AccP G2 pcs (f.progs.take k)∧Gq1.le G2∧m=f.progs.length-k∧E=⟨[],[(1,Vp b1),(2,Vp b2),(3,Vp b3),(21,.slice Ap f.progs.length cp),(22,Vi ((f.progs.length:Nat):Int)),(23,Vi (k:Int))]⟩∧St ⟨w0,G,feet []⟩ G2 [.row 70 2 vp k pcs.flatten,.blk b3 38 [vp,Vn,.slice A18 f.edges.length c18,Vn],.blk b2 38 [Vn,Vn,Vn,Vn]] w) rfl (⟨0,_,[],_,by omega,⟨trivial,by simp⟩,Ghost.le.refl _,rfl,rfl,hs⟩) fun m E w hI=>?_
 obtain ⟨k,vp,pcs,G2,hk,hAP,hGG1,rfl,rfl,hs⟩:=hI
 have hf:=hf0.mono hs.le
 have hE18:=hE18.mono hGG1
 have hQ1:=hQ1.mono hGG1
 refine Wt 2 [] hs rfl<|Zy hs (Yc rfl (fun h24=>?_) fun h24=>?_)
 ·
  refine Wp 8 [0] hs rfl<|Zy hs (Y_idxS hf.p k underlying33 sizeOf70 rfl rfl rfl oM fun p25 c25 hp25 hc25 hR25=>?_)
  obtain ⟨p,hpe⟩:∃ z,z=f.progs[k]'oM:=⟨_,rfl⟩
  rw [← hpe] at hR25
  have hpz0:=szP_iff (hsz p (by rw [hpe];exact List.getElem_mem _))
  obtain ⟨u25,v25,rfl,⟨hS,hS0⟩,⟨hB,hB0⟩⟩:=id hR25
  obtain ⟨As,cs,rfl⟩:=LstR.slice hS
  obtain ⟨Ab,cb,rfl⟩:=LstR.slice hB
  refine Zy hs (Y_ldAG (vs:=[.slice As p.stmts.length cs,.slice Ab p.blocks.length cb]) isAgg70 sizeOf70 rfl hp25 rfl<|O_s (Sa hs zeroValue70 rfl fun b5 _ hs=>O_n (S_stA hs sizeOf70 rfl rfl (vs:=[_,_]) rfl (rfl) sM (cs':=[_,_]) rfl fun _ hs =>Wp 1 [0] hs rfl ?_)))
  obtain ⟨_,hGbhQ5,hQ5,hs⟩:=hs.fixBlk (fun k _=>noMb k)
  replace hf:=hf.mono hGbhQ5
  replace hE18:=hE18.mono hGbhQ5
  replace hQ1:=hQ1.mono hGbhQ5
  replace hGG1:=hGG1.mono hGbhQ5
  replace hAP:=hAP.mono hGbhQ5
  replace hS:=hS.mono hGbhQ5
  replace hB:=hB.mono hGbhQ5
  replace hQ5:BlkAt _ b5 _:=hQ5
  refine Wu 2 [] hs rfl<|O_s (Sa hs zeroValue70 rfl fun b6 _ hs=>Wp 5 [0,0] hs rfl<|Zy hs (Yg rfl (hQ5 0 _ rfl)<|Wp 3 [0] hs rfl ?_))
  obtain ⟨Gq2,rfl⟩:=ghostOf hs
  have hs:=hs.nilRow 114 33
  have hs:=hs.f4.f4.f4.f4.f4
  refine Zl [1,2,3,5,6,21,22,23,28,29,30] (fun m E w=>∃ (i:Nat) (vs:Value) (css:List (List Value)) (G2:Ghost),i≤p.stmts.length∧AccS G2 css (p.stmts.take i)∧(i=0→vs=Vn)∧Gq2.le G2∧m=p.stmts.length - i∧E=⟨[],[(1,Vp b1),(2,Vp b2),(3,Vp b3),(5,Vp b5),(6,Vp b6),(21,.slice Ap f.progs.length cp),(22,Vi ((f.progs.length:Nat):Int)),(23,Vi (k:Int)),(28,.slice As p.stmts.length cs),(29,Vi ((p.stmts.length:Nat):Int)),(30,Vi (i:Int))]⟩∧St ⟨w0,G,feet []⟩ G2 [.row 114 33 vs i css.flatten,.blk b6 70 [vs,Vn],.row 70 2 vp k pcs.flatten,.blk b3 38 [vp,Vn,.slice A18 f.edges.length c18,Vn],.blk b2 38 [Vn,Vn,Vn,Vn]] w) rfl (⟨0,_,[],_,by omega,⟨trivial,by simp⟩,fun _=>rfl,Ghost.le.refl _,rfl,rfl,hs⟩) fun m E w hI=>?_
  obtain ⟨i,vs,css,G2,hi,hAS,hi0,hGG2,rfl,rfl,hs⟩:=hI
  have hf:=hf0.mono hs.le
  have hE18:=hE18.mono hGG2
  have hQ1:=hQ1.mono hGG2
  have hAP:=hAP.mono hGG2
  have hS:=hS.mono hGG2
  have hB:=hB.mono hGG2
  have hQ5:=hQ5.mono hGG2
  have hGG1:=hGG1.mono hGG2
  refine Wt 2 [] hs rfl<|Zy hs (Yc rfl (fun h31=>?_) fun h31=>?_)
  ·
   refine Wp 8 [0] hs rfl<|Zy hs (Y_idxS hS i underlying68 sizeOf114 rfl rfl rfl oM fun p32 c32 hp32 hc32 hR32=>?_)
   obtain ⟨sm,hsm⟩:∃ z,z=p.stmts[i]'oM:=⟨_,rfl⟩
   rw [← hsm] at hR32
   have hsz2:=szS_iff (hpz0.2.1 sm (by rw [hsm];exact List.getElem_mem _))
   obtain ⟨wb,wo,wn,wp,wy,wr,rfl,⟨hb8,nb⟩,⟨ho8,no⟩,⟨hn8,nn⟩,⟨hp8,np⟩,⟨hy8,ny⟩,⟨hr8,nr⟩⟩:=hR32
   obtain ⟨Ab1,cb1,rfl,_⟩:=id hb8
   obtain ⟨Ao1,co1,rfl,_⟩:=id ho8
   obtain ⟨An1,cn1,rfl,_⟩:=id hn8
   obtain ⟨Ap1,cp1,rfl⟩:=LstR.slice hp8
   obtain ⟨Ay1,cy1,rfl,_⟩:=id hy8
   obtain ⟨Ar1,cr1,rfl⟩:=LstR.slice hr8
   obtain ⟨pcs1,hpl8,hpa8,hpk8⟩:=id hp8
   have hAT:AccT _ pcs1 sm.p:=⟨hpa8,hpk8⟩
   obtain ⟨rcs,hrl8,hra,hrk⟩:=id hr8
   refine Zy hs (Y_ldAG (vs:=stmC sm (.slice Ab1 sm.b.length cb1) (.slice Ao1 sm.op.old.length co1) (.slice An1 sm.op.new.length cn1) (.slice Ap1 sm.p.length cp1) (.slice Ay1 sm.ys.length cy1) (.slice Ar1 sm.cond.r.length cr1)) isAgg114 sizeOf114 rfl hp32 rfl<|O_s (Sa hs zeroValue114 rfl fun b8 _ hs=>O_n (S_stA hs sizeOf114 rfl rfl (vs:=[_,_,_,_,_,_,_,_,_,_,_,_,_,_,_,_,_,_,_,_,_,_,_,_,_,_,_,_,_,_,_,_,_]) rfl (rfl) sM (cs':=[_,_,_,_,_,_,_,_,_,_,_,_,_,_,_,_,_,_,_,_,_,_,_,_,_,_,_,_,_,_,_,_,_]) rfl fun _ hs =>Wp 2 [0] hs rfl<|T_drawS [0,1,2,3,4,5,6,7,8,9,10,11,12,13] hs kR ?_)))
   replace hs:=hs.drew
   refine Xr [0,1,3,4,6,7,9,10,11] [7,0,22,0,21,0,23,29,0] hs rfl ?_
   have hle:=hs.le
   refine Xo 2 rfl (Sc (clnb_ok hb8 (byte_one _) oM) hs rfl fun v2 G' H' _ hR hG36 hs=>?_)
   obtain ⟨rfl,hbc,hbz⟩:=hR
   replace hs:=hs.n rfl
   replace hf:=hf.mono hG36
   replace hE18:=hE18.mono hG36
   replace hQ1:=hQ1.mono hG36
   replace hAP:=hAP.mono hG36
   replace hS:=hS.mono hG36
   replace hB:=hB.mono hG36
   replace hQ5:=hQ5.mono hG36
   replace hGG1:=hGG1.mono hG36
   replace hGG2:=hGG2.mono hG36
   replace hAS:=hAS.mono hG36
   replace ho8:=ho8.mono hG36
   replace hn8:=hn8.mono hG36
   replace hpl8:=hpl8.mono hG36
   replace hAT:=hAT.mono hG36
   replace hy8:=hy8.mono hG36
   replace hrl8:=hrl8.mono hG36
   obtain ⟨A36,c36,rfl,_⟩:=id hbc
   refine A_moreS hs hle hG36 (List.Sublist.refl _)<|Xr [13] [7] hs rfl ?_
   have hle:=hs.le
   refine Xo 5 rfl (Sc (clns_ok hy8 (int_one _) oM) hs rfl fun v3 G' H' _ hR hG39 hs=>?_)
   obtain ⟨rfl,hyc,hyz⟩:=hR
   replace hs:=hs.n rfl
   replace hf:=hf.mono hG39
   replace hE18:=hE18.mono hG39
   replace hQ1:=hQ1.mono hG39
   replace hAP:=hAP.mono hG39
   replace hS:=hS.mono hG39
   replace hB:=hB.mono hG39
   replace hQ5:=hQ5.mono hG39
   replace hGG1:=hGG1.mono hG39
   replace hGG2:=hGG2.mono hG39
   replace hAS:=hAS.mono hG39
   replace ho8:=ho8.mono hG39
   replace hn8:=hn8.mono hG39
   replace hpl8:=hpl8.mono hG39
   replace hAT:=hAT.mono hG39
   replace hrl8:=hrl8.mono hG39
   replace hbc:=hbc.mono hG39
   obtain ⟨A39,c39,rfl,_⟩:=id hyc
   refine A_moreS hs hle hG39 (List.Sublist.refl _) ?_
   have hle:=hs.le
   refine Xo 8 rfl (Sc (clnp_ok hpl8 (flat_one (fun _ _ h=>part_one h) hAT.1) oM) hs rfl fun v4 G' H' _ hR hG42 hs=>?_)
   obtain ⟨rfl,hpz⟩:=hR
   replace hs:=hs.n rfl
   replace hf:=hf.mono hG42
   replace hE18:=hE18.mono hG42
   replace hQ1:=hQ1.mono hG42
   replace hAP:=hAP.mono hG42
   replace hS:=hS.mono hG42
   replace hB:=hB.mono hG42
   replace hQ5:=hQ5.mono hG42
   replace hGG1:=hGG1.mono hG42
   replace hGG2:=hGG2.mono hG42
   replace hAS:=hAS.mono hG42
   replace ho8:=ho8.mono hG42
   replace hn8:=hn8.mono hG42
   replace hAT:=hAT.mono hG42
   replace hrl8:=hrl8.mono hG42
   replace hbc:=hbc.mono hG42
   replace hyc:=hyc.mono hG42
   refine A_moreS hs hle hG42 (List.sublist_cons_self _ _) ?_
   have hle:=hs.le
   refine Xo 12 rfl (Sc (clnx_ok hrl8 (flat_one (fun _ _ h=>node_one h) hra) oM) hs rfl fun v5 G' H' _ hR hG46 hs=>?_)
   obtain ⟨rfl,hrc,hrz⟩:=hR
   replace hs:=hs.n rfl
   replace hf:=hf.mono hG46
   replace hE18:=hE18.mono hG46
   replace hQ1:=hQ1.mono hG46
   replace hAP:=hAP.mono hG46
   replace hS:=hS.mono hG46
   replace hB:=hB.mono hG46
   replace hQ5:=hQ5.mono hG46
   replace hGG1:=hGG1.mono hG46
   replace hGG2:=hGG2.mono hG46
   replace hAS:=hAS.mono hG46
   replace ho8:=ho8.mono hG46
   replace hn8:=hn8.mono hG46
   replace hAT:=hAT.mono hG46
   replace hbc:=hbc.mono hG46
   replace hyc:=hyc.mono hG46
   obtain ⟨A46,c46,rfl,_⟩:=id hrc
   refine A_moreS hs hle hG46 (List.Sublist.refl _)<|Xn 14 rfl (Sd hs.f1 rfl rfl fun _ hs=>Xa 15 rfl (S_y hs rfl (Yf 22 rfl<|Xn 16 rfl (Sd hs rfl rfl fun _ hs=>Xa 17 rfl (S_y hs rfl (Yf 21 rfl<|Xn 18 rfl (Sd hs rfl (hs.rowOne 1 rfl) fun _ hs=>Xa 19 rfl (S_y hs rfl (Yf 23 rfl<|Xa 20 rfl (S_y hs rfl (Yf 29 rfl<|Xn 21 rfl (Sd hs rfl rfl fun _ hs=>Xe (Zk [1,2,3,5,6,8,21,22,23,28,29,30] rfl<|Wu 1 [] hs rfl<|T_drawS [0,1,2,3,4,5,6,7,8,9] hs kR ?_)))))))))))))
   replace hs:=hs.drew
   refine Xr [0,1,2,4,5,6] [9,10,0,9,11,0] hs rfl ?_
   have hle:=hs.le
   refine Xo 3 rfl (Sc (clnb_ok ho8 (byte_one _) oM) hs rfl fun v6 G' H' _ hR hG55 hs=>?_)
   obtain ⟨rfl,hoc,hoz⟩:=hR
   replace hs:=hs.n rfl
   replace hf:=hf.mono hG55
   replace hE18:=hE18.mono hG55
   replace hQ1:=hQ1.mono hG55
   replace hAP:=hAP.mono hG55
   replace hS:=hS.mono hG55
   replace hB:=hB.mono hG55
   replace hQ5:=hQ5.mono hG55
   replace hGG1:=hGG1.mono hG55
   replace hGG2:=hGG2.mono hG55
   replace hAS:=hAS.mono hG55
   replace hn8:=hn8.mono hG55
   replace hAT:=hAT.mono hG55
   replace hbc:=hbc.mono hG55
   replace hyc:=hyc.mono hG55
   replace hrc:=hrc.mono hG55
   obtain ⟨A55,c55,rfl,_⟩:=id hoc
   refine A_moreS hs hle hG55 (List.Sublist.refl _)<|Xr [8,9] [9,10] hs rfl ?_
   have hle:=hs.le
   refine Xo 7 rfl (Sc (clnb_ok hn8 (byte_one _) oM) hs rfl fun v7 G' H' _ hR hG59 hs=>?_)
   obtain ⟨rfl,hnc,hnz2⟩:=hR
   replace hs:=hs.n rfl
   replace hf:=hf.mono hG59
   replace hE18:=hE18.mono hG59
   replace hQ1:=hQ1.mono hG59
   replace hAP:=hAP.mono hG59
   replace hS:=hS.mono hG59
   replace hB:=hB.mono hG59
   replace hQ5:=hQ5.mono hG59
   replace hGG1:=hGG1.mono hG59
   replace hGG2:=hGG2.mono hG59
   replace hAS:=hAS.mono hG59
   replace hAT:=hAT.mono hG59
   replace hbc:=hbc.mono hG59
   replace hyc:=hyc.mono hG59
   replace hrc:=hrc.mono hG59
   replace hoc:=hoc.mono hG59
   obtain ⟨A59,c59,rfl,_⟩:=id hnc
   refine A_moreS hs hle hG59 (List.Sublist.refl _)<|Xn 10 rfl (Sd hs rfl rfl fun _ hs=>Xa 11 rfl (S_y hs rfl (Yf 9 rfl<|Xa 12 rfl (S_y hs rfl (Yf 11 rfl<|Xn 13 rfl (Sd hs rfl rfl fun _ hs=>Xe (Zk [1,2,3,5,6,8,21,22,23,28,29,30] rfl<|Wu 5 [21,0] hs rfl<|Zy hs (Y_lenOwn 1 rfl underlying108 rfl hs<|Wp 2 [0] hs rfl ?_))))))))
   obtain ⟨Gq3,rfl⟩:=ghostOf hs
   have hs:=hs.f6.f6.f6.f6.f6.f5.f6
   refine Zl [1,2,3,5,6,8,21,22,23,28,29,30,66,67] (fun m E w=>∃ (j:Nat) (vP:Value) (css2:List (List Value)) (G2:Ghost),j≤sm.p.length∧AccT G2 css2 sm.p∧(sm.p=[]→vP=Vn)∧Gq3.le G2∧m=sm.p.length-j∧E=⟨[],[(1,Vp b1),(2,Vp b2),(3,Vp b3),(5,Vp b5),(6,Vp b6),(8,Vp b8),(21,.slice Ap f.progs.length cp),(22,Vi ((f.progs.length:Nat):Int)),(23,Vi (k:Int)),(28,.slice As p.stmts.length cs),(29,Vi ((p.stmts.length:Nat):Int)),(30,Vi (i:Int)),(66,Vi (sm.p.length:Int)),(67,Vi (j:Int))]⟩∧St ⟨w0,G,feet []⟩ G2 [.row 122 2 vP sm.p.length css2.flatten,.blk b8 114 [Vi sm.kind,Vi sm.x,Vi sm.y,Vi sm.z,Vi sm.n,Vi sm.i,Vi sm.j,.slice A36 sm.b.length c36,.bool sm.last,Vi sm.op.kind,.slice A55 sm.op.old.length c55,.slice A59 sm.op.new.length c59,u64V sm.c0,u64V sm.c1,u64V sm.c2,u64V sm.c3,Vi sm.rule.base,Vi sm.rule.digits,Vi sm.rule.top,Vi sm.rule.over,.bool sm.rule.zeros,vP,.slice A39 sm.ys.length c39,Vi sm.cond.kind,.bool sm.cond.neg,Vi sm.cond.x,Vi sm.cond.y,Vi sm.cond.n,Vi sm.cond.k,.slice A46 sm.cond.r.length c46,strV sm.name,Vi sm.thn,Vi sm.els],.row 114 33 vs i css.flatten,.blk b6 70 [vs,Vn],.row 70 2 vp k pcs.flatten,.blk b3 38 [vp,Vn,.slice A18 f.edges.length c18,Vn],.blk b2 38 [Vn,Vn,Vn,Vn]] w) rfl (⟨0,_,pcs1,_,by omega,hAT,fun h=>hpz (np h),Ghost.le.refl _,rfl,rfl,hs⟩) fun m E w hI=>?_
   obtain ⟨j,vP,css2,G2,hj,hAT,hPn,hGG3,rfl,rfl,hs⟩:=hI
   have hf:=hf0.mono hs.le
   have hE18:=hE18.mono hGG3
   have hQ1:=hQ1.mono hGG3
   have hAP:=hAP.mono hGG3
   have hS:=hS.mono hGG3
   have hB:=hB.mono hGG3
   have hQ5:=hQ5.mono hGG3
   have hGG1:=hGG1.mono hGG3
   have hAS:=hAS.mono hGG3
   have hbc:=hbc.mono hGG3
   have hyc:=hyc.mono hGG3
   have hrc:=hrc.mono hGG3
   have hoc:=hoc.mono hGG3
   have hnc:=hnc.mono hGG3
   have hGG2:=hGG2.mono hGG3
   refine Wt 2 [] hs rfl<|Zy hs (Yc rfl (fun h68=>?_) fun h68=>?_)
   ·
    refine Wp 11 [0,0] hs rfl<|T_drawS [0,1,2,3,4,5,6,7,8,9,10,11] hs kR ?_
    replace hs:=hs.drew
    obtain ⟨bP,cP,rfl,_⟩:=hs.rowForm 0 rfl oM
    obtain ⟨q,hqe⟩:∃ z,z=sm.p[j]'oM:=⟨_,rfl⟩
    obtain ⟨q0,hcj,hq1⟩:=All2.get j hAT.1 (show j<sm.p.length by omega)
    rw [← hqe] at hq1
    obtain ⟨uq,rfl,hqx⟩:=hq1
    obtain ⟨Aq,cq,rfl⟩:=LstR.slice hqx
    have hqz:q.r.length≤1000:=hsz2.2 q (by rw [hqe];exact List.getElem_mem _)
    obtain ⟨qcs,hql,hqa,hqk⟩:=id hqx
    refine Xr [0,1,2,3,4,5] [21,1,21,1] hs rfl<|Xt 6 hs rfl (Y_idxRowK j underlying108 sizeOf122 rfl rfl rfl oM<|Xt 7 hs rfl (Yf (j*2) rfl<|Xt 8 hs rfl (Y_ldRowC 0 rfl isAgg110 rfl (flat2_at hAT.2 hcj) ?_)))
    have hle:=hs.le
    refine Xo 9 rfl (Sc (clnx_ok hql (flat_one (fun _ _ h=>node_one h) hqa) oM) hs rfl fun v8 G' H' _ hR hG79 hs=>?_)
    obtain ⟨rfl,hqn,_⟩:=hR
    replace hs:=hs.n rfl
    replace hGG3:=hGG3.mono hG79
    replace hAT:=hAT.mono hG79
    obtain ⟨A79,c79,rfl,_⟩:=id hqn
    refine A_moreS hs hle hG79 (List.Sublist.refl _)<|Xt 10 hs rfl (Y_idxRowK j underlying108 sizeOf122 rfl rfl rfl oM<|Xt 11 hs rfl (Yf (j * 2) rfl<|Xn 12 rfl (S_stRowC hs sizeOf110 rfl rfl rfl oM fun _ hs=>?_)))
    rw [flat2_set hAT.2 hcj] at hs
    refine Xe (Zk [1,2,3,5,6,8,21,22,23,28,29,30,66,67] rfl ?_)
    refine Zr<|Zy hs (Ya (s:=((j+1:Nat):Int)) rfl<|Wp 1 [] hs rfl ?_)
    have hs:=hs.f6.f6.f6.f6.f6.f6.f6
    refine Zx [1,2,3,5,6,8,21,22,23,28,29,30,66,67] rfl ⟨j+1,_,css2.set j [.slice A79 q.r.length c79,.bool q.lz],_,by omega,⟨All2.set hAT.1 oM (by rw [← hqe];exact ⟨_,rfl,qcs,hqn,hqa,hqk⟩),fun c hc=>by rcases List.mem_or_eq_of_mem_set hc with h | h;exact hAT.2 c h;rw [h];rfl⟩,fun h=>absurd (congrArg List.length h) (by rw [List.length_nil];omega),hGG3,rfl,rfl,hs⟩
   refine Wp 4 [0] hs rfl ?_
   obtain ⟨_,hG_hfP,hfP,hs⟩:=hs.fixRow noM
   replace hAS:=hAS.mono hG_hfP
   replace hbc:=hbc.mono hG_hfP
   replace hyc:=hyc.mono hG_hfP
   replace hrc:=hrc.mono hG_hfP
   replace hoc:=hoc.mono hG_hfP
   replace hnc:=hnc.mono hG_hfP
   replace hGG2:=hGG2.mono hG_hfP
   replace hAT:=hAT.mono hG_hfP
   obtain ⟨A16,c16,h16e,_⟩:=id hfP
   have hPat:Pat _ _ sm.p:=hAT.fin hfP rfl
   subst h16e
   refine Wu 4 [0,2,0] hs rfl<|O_s (S_litK hs underlying68 sizeOf114 zeroValue114 kR kR kR rfl (es:=[[_,_,_,_,_,_,_,_,_,_,_,_,_,_,_,_,_,_,_,_,_,_,_,_,_,_,_,_,_,_,_,_,_]]) rfl rfl fun v9 _ hs _=>?_)
   obtain ⟨_,hG86,hl86,hs⟩:=hs.fixRow noM
   replace hAS:=hAS.mono hG86
   replace hbc:=hbc.mono hG86
   replace hyc:=hyc.mono hG86
   replace hrc:=hrc.mono hG86
   replace hoc:=hoc.mono hG86
   replace hnc:=hnc.mono hG86
   replace hGG2:=hGG2.mono hG86
   replace hPat:=hPat.mono hG86
   refine O_s (S_append hs.f1 underlying68 TI114 rfl dC rfl rfl (hl86) ((all_one rfl)) oM oM fun v10 _ hs =>Wp 1 [0] hs rfl<|O_n (Sd hs.f2 rfl (hs.f2.rowOne 1 rfl) fun _ hs=>Wp 2 [0] hs rfl<|Zy hs (Ya (s:=((i+1:Nat):Int)) rfl<|Wp 1 [] hs rfl ?_)))
   have hs:=hs.f5.f5.f5.f3.f4
   refine Zx [1,2,3,5,6,21,22,23,28,29,30] rfl ⟨i+1,_,css++[[Vi sm.kind,Vi sm.x,Vi sm.y,Vi sm.z,Vi sm.n,Vi sm.i,Vi sm.j,.slice A36 sm.b.length c36,.bool sm.last,Vi sm.op.kind,.slice A55 sm.op.old.length c55,.slice A59 sm.op.new.length c59,u64V sm.c0,u64V sm.c1,u64V sm.c2,u64V sm.c3,Vi sm.rule.base,Vi sm.rule.digits,Vi sm.rule.top,Vi sm.rule.over,.bool sm.rule.zeros,.slice A16 sm.p.length c16,.slice A39 sm.ys.length c39,Vi sm.cond.kind,.bool sm.cond.neg,Vi sm.cond.x,Vi sm.cond.y,Vi sm.cond.n,Vi sm.cond.k,.slice A46 sm.cond.r.length c46,strV sm.name,Vi sm.thn,Vi sm.els]],_,by omega,(by rw [take_succ' oM,← hsm];exact hAS.snoc ⟨_,_,_,_,_,_,rfl,⟨hbc,fun h=>hbz (nb h)⟩,⟨hoc,fun h=>hoz (no h)⟩,⟨hnc,fun h=>hnz2 (nn h)⟩,⟨hPat,hPn⟩,⟨hyc,fun h=>hyz (ny h)⟩,⟨⟨rcs,hrc,hra,hrk⟩,fun h=>hrz (nr h)⟩⟩ rfl),fun h=>absurd h oM,hGG2,rfl,rfl,castR (hs.weak hs.le (Ghost.le.refl _) (List.sublist_append_left [_,_,_,_,_] _)) sM⟩
  refine Wp 4 [0] hs rfl<|Wu 4 [1] hs rfl<|Zy hs (Yg rfl (hQ5 1 _ rfl)<|Wp 3 [0] hs rfl ?_)
  obtain ⟨Gq4,rfl⟩:=ghostOf hs
  obtain rfl:i=p.stmts.length:=by omega
  rw [List.take_length] at hAS
  have hs:=hs.nilRow 45 1
  have hs:=hs.f5.f5.f5.f5.f5.f5
  refine Zl [1,2,3,6,21,22,23,91,92,93] (fun m E w=>∃ (j:Nat) (vb:Value) (bs:List Value) (G2:Ghost),j≤p.blocks.length∧LRows G2 bs (p.blocks.take j)∧(j=0→vb=Vn)∧Gq4.le G2∧m=p.blocks.length - j∧E=⟨[],[(1,Vp b1),(2,Vp b2),(3,Vp b3),(6,Vp b6),(21,.slice Ap f.progs.length cp),(22,Vi ((f.progs.length:Nat):Int)),(23,Vi (k:Int)),(91,.slice Ab p.blocks.length cb),(92,Vi ((p.blocks.length:Nat):Int)),(93,Vi (j:Int))]⟩∧St ⟨w0,G,feet []⟩ G2 [.row 45 1 vb j bs,.row 114 33 vs p.stmts.length css.flatten,.blk b6 70 [vs,vb],.row 70 2 vp k pcs.flatten,.blk b3 38 [vp,Vn,.slice A18 f.edges.length c18,Vn],.blk b2 38 [Vn,Vn,Vn,Vn]] w) rfl (⟨0,_,[],_,by omega,trivial,fun _=>rfl,Ghost.le.refl _,rfl,rfl,hs⟩) fun m E w hI=>?_
  obtain ⟨j,vb,bs,G2,hj,hLb,hj0,hGG4,rfl,rfl,hs⟩:=hI
  have hf:=hf0.mono hs.le
  have hE18:=hE18.mono hGG4
  have hQ1:=hQ1.mono hGG4
  have hAP:=hAP.mono hGG4
  have hS:=hS.mono hGG4
  have hB:=hB.mono hGG4
  have hQ5:=hQ5.mono hGG4
  have hGG1:=hGG1.mono hGG4
  have hAS:=hAS.mono hGG4
  refine Wt 2 [] hs rfl<|Zy hs (Yc rfl (fun h94=>?_) fun h94=>?_)
  ·
   refine Wp 8 [0] hs rfl<|Zy hs (Y_idxS hB j underlying36 sizeOf45 rfl rfl rfl oM fun p95 c95 hp95 hc95 hR95=>?_)
   obtain ⟨bl,hble⟩:∃ r,r=p.blocks[j]'oM:=⟨_,rfl⟩
   rw [← hble] at hR95
   have hbll:bl.length≤1000:=hpz0.2.2 bl Z30
   obtain ⟨u95,rfl,hbl⟩:=hR95
   obtain ⟨Ax,cx,rfl,_⟩:=id hbl
   refine Zy hs (Yg rfl (hp95 0 (.slice Ax bl.length cx) rfl)<|Wp 2 [0] hs rfl<|T_drawS [0,1,2,3,4] hs kR ?_)
   replace hs:=hs.drew
   refine Xr [0,1,2] [1,2] hs rfl ?_
   have hle:=hs.le
   refine Xo 3 rfl (Sc (clni_ok hbl oM) hs rfl fun v11 G' H' _ hR hG100 hs=>?_)
   obtain ⟨rfl,hbn⟩:=hR
   replace hs:=hs.n rfl
   replace hGG4:=hGG4.mono hG100
   replace hLb:=hLb.mono hG100
   obtain ⟨A100,c100,rfl,_⟩:=id hbn
   refine A_moreS hs hle hG100 (List.Sublist.refl _) ?_
   have hle:=hs.le
   refine Xo 4 rfl (S_lit hs underlying36 sizeOf45 zeroValue45 rfl rfl dC dC rfl (cs:=[_]) rfl rfl fun v12 _ hs _=>?_)
   obtain ⟨_,hG101,hl101,hs⟩:=hs.fixRow noM
   replace hGG4:=hGG4.mono hG101
   replace hLb:=hLb.mono hG101
   replace hbn:=hbn.mono hG101
   refine A_moreS hs hle hG101 (List.Sublist.refl _)<|Xa 5 rfl (S_append hs underlying36 TI45 rfl dC rfl rfl (hl101) ((all_one rfl)) oM oM fun v13 _ hs =>Xa 6 rfl (S_y hs rfl (Yf 1 rfl<|Xn 7 rfl (Sd hs.f2 rfl (hs.f2.rowOne 1 rfl) fun _ hs=>Xe (Zk [1,2,3,6,21,22,23,91,92,93] rfl ?_)))))
   refine Zr<|Zy hs (Ya (s:=((j+1:Nat):Int)) rfl<|Wp 1 [] hs rfl ?_)
   have hs:=hs.f5.f5.f5.f3.f5.f5
   refine Zx [1,2,3,6,21,22,23,91,92,93] rfl ⟨j+1,_,bs++[.slice A100 bl.length c100],_,by omega,(by rw [take_succ' oM,← hble];exact hLb.snoc hbn),fun h=>absurd h oM,hGG4,rfl,rfl,hs⟩
  refine Wp 4 [0] hs rfl ?_
  obtain rfl:j=p.blocks.length:=by omega
  rw [List.take_length] at hLb
  have hs:=hs.f1
  obtain ⟨_,hG_hfs,hfs,hs⟩:=hs.fixRow noM
  replace hAP:=hAP.mono hG_hfs
  replace hGG1:=hGG1.mono hG_hfs
  replace hAS:=hAS.mono hG_hfs
  replace hLb:=hLb.mono hG_hfs
  obtain ⟨A9,c9,h9e,_⟩:=id hfs
  have hS9:Sts _ _ p.stmts:=hAS.fin hfs rfl
  obtain ⟨_,hG_hfb,hfb,hs⟩:=hs.fixRow noM
  replace hAP:=hAP.mono hG_hfb
  replace hGG1:=hGG1.mono hG_hfb
  replace hLb:=hLb.mono hG_hfb
  replace hS9:=hS9.mono hG_hfb
  obtain ⟨A10,c10,h10e,_⟩:=id hfb
  have hB9:LN _ _ p.blocks:=LRows.fin hfb rfl hLb
  subst h9e h10e
  refine Wu 4 [0,2,0] hs rfl<|O_s (S_lit hs underlying33 sizeOf70 zeroValue70 rfl rfl dC dC rfl (cs:=[_,_]) rfl rfl fun v14 _ hs _=>?_)
  obtain ⟨_,hG108,hl108,hs⟩:=hs.fixRow noM
  replace hAP:=hAP.mono hG108
  replace hGG1:=hGG1.mono hG108
  replace hS9:=hS9.mono hG108
  replace hB9:=hB9.mono hG108
  refine O_s (S_append hs.f1 underlying33 TI70 rfl dC rfl rfl (hl108) ((all_one rfl)) oM oM fun v15 _ hs =>Wp 1 [0] hs rfl<|O_n (Sd hs.f2 rfl (hs.f2.rowOne 1 rfl) fun _ hs=>Wp 2 [0] hs rfl<|Zy hs (Ya (s:=((k+1:Nat):Int)) rfl<|Wp 1 [] hs rfl ?_)))
  have hs:=hs.f3.f1.f2
  refine Zx [1,2,3,21,22,23] rfl ⟨k+1,_,pcs++[[.slice A9 p.stmts.length c9,.slice A10 p.blocks.length c10]],_,by omega,(by rw [take_succ' oM,← hpe];exact hAP.snoc ⟨_,_,rfl,⟨hS9,fun h=>hi0 (by rw [h];rfl)⟩,⟨hB9,fun h=>hj0 (by rw [h];rfl)⟩⟩ rfl),hGG1,rfl,rfl,castR (hs.weak hs.le (Ghost.le.refl _) (List.sublist_append_left [_,_,_] _)) sM⟩
 refine Wp 4 [0] hs rfl ?_
 obtain rfl:k=f.progs.length:=by omega
 rw [List.take_length] at hAP
 obtain ⟨_,hG_hfp,hfp,hs⟩:=hs.fixRow noM
 replace hf:=hf.mono hG_hfp
 replace hE18:=hE18.mono hG_hfp
 replace hQ1:=hQ1.mono hG_hfp
 replace hAP:=hAP.mono hG_hfp
 obtain ⟨A25,c25,h25e,_⟩:=id hfp
 have hPgs:Pgs _ _ f.progs:=hAP.fin hfp rfl
 subst h25e
 refine Wu 4 [1] hs rfl<|Zy hs (Yg rfl (hQ1 1 _ rfl)<|Wp 3 [0] hs rfl ?_)
 obtain ⟨Gq5,rfl⟩:=ghostOf hs
 have hs:=hs.nilRow 61 4
 have hs:=hs.f2.f2.f2
 refine Zl [1,2,3,113,114,115] (fun m E w=>∃ (k:Nat) (vn:Value) (ncs:List (List Value)) (G2:Ghost),k≤f.nodes.length∧AccN G2 ncs (f.nodes.take k)∧Gq5.le G2∧m=f.nodes.length-k∧E=⟨[],[(1,Vp b1),(2,Vp b2),(3,Vp b3),(113,.slice An f.nodes.length cn),(114,Vi ((f.nodes.length:Nat):Int)),(115,Vi (k:Int))]⟩∧St ⟨w0,G,feet []⟩ G2 [.row 61 4 vn k ncs.flatten,.blk b3 38 [.slice A25 f.progs.length c25,vn,.slice A18 f.edges.length c18,Vn],.blk b2 38 [Vn,Vn,Vn,Vn]] w) rfl (⟨0,_,[],_,by omega,⟨trivial,by simp⟩,Ghost.le.refl _,rfl,rfl,hs⟩) fun m E w hI=>?_
 obtain ⟨k,vn,ncs,G2,hk,hAN,hGG5,rfl,rfl,hs⟩:=hI
 have hf:=hf0.mono hs.le
 have hE18:=hE18.mono hGG5
 have hQ1:=hQ1.mono hGG5
 have hPgs:=hPgs.mono hGG5
 refine Wt 2 [] hs rfl<|Zy hs (Yc rfl (fun h116=>?_) fun h116=>?_)
 ·
  refine Wp 8 [0] hs rfl<|Zy hs (Y_idxS hf.n k underlying34 sizeOf61 rfl rfl rfl oM fun p117 c117 hp117 hc117 hR117=>?_)
  obtain ⟨u117,rfl,hv117⟩:=hR117
  obtain ⟨Av,cv,rfl,_⟩:=id hv117
  have hvz:=hz.v _ (List.getElem_mem (show k<f.nodes.length by omega))
  refine Zy hs (Y_ldAG (vs:=[.slice Av f.nodes[k].vers.length cv,Vi f.nodes[k].runs,Vi f.nodes[k].claims,.bool f.nodes[k].up]) isAgg61 sizeOf61 rfl hp117 rfl<|O_s (Sa hs zeroValue61 rfl fun b13 _ hs=>O_n (S_stA hs sizeOf61 rfl rfl (vs:=[_,_,_,_]) rfl (rfl) sM (cs':=[_,_,_,_]) rfl fun _ hs =>Wp 5 [0,0,0] hs rfl<|O_s (Sc (clns_ok hv117 (int_one _) oM) hs rfl fun v16 G' H' _ hR hG121 hs=>?_))))
  obtain ⟨rfl,hvc,_⟩:=hR
  replace hs:=hs.n rfl
  replace hGG5:=hGG5.mono hG121
  replace hAN:=hAN.mono hG121
  obtain ⟨A121,c121,rfl,_⟩:=id hvc
  refine Wp 1 [0] hs rfl<|O_n (Sd hs rfl rfl fun _ hs=>Wp 5 [0,1,2,0] hs rfl<|O_s (S_lit hs underlying34 sizeOf61 zeroValue61 rfl rfl dC dC rfl (cs:=[_,_,_,_]) rfl rfl fun v17 _ hs _=>?_))
  obtain ⟨_,hG126,hl126,hs⟩:=hs.fixRow noM
  replace hGG5:=hGG5.mono hG126
  replace hAN:=hAN.mono hG126
  replace hvc:=hvc.mono hG126
  refine O_s (S_append hs.f1 underlying34 TI61 rfl dC rfl rfl (hl126) ((all_one rfl)) oM oM fun v18 _ hs =>Wp 1 [1] hs rfl<|O_n (Sd hs.f2 rfl (hs.f2.rowOne 1 rfl) fun _ hs=>Wp 2 [0] hs rfl<|Zy hs (Ya (s:=((k+1:Nat):Int)) rfl<|Wp 1 [] hs rfl ?_)))
  have hs:=hs.f3.f1.f2
  refine Zx [1,2,3,113,114,115] rfl ⟨k+1,_,ncs++[[.slice A121 f.nodes[k].vers.length c121,Vi f.nodes[k].runs,Vi f.nodes[k].claims,.bool f.nodes[k].up]],_,by omega,(by rw [take_succ' oM];exact hAN.snoc ⟨_,rfl,hvc⟩ rfl),hGG5,rfl,rfl,castR (hs.weak hs.le (Ghost.le.refl _) (List.sublist_append_left [_,_,_] _)) sM⟩
 refine Wp 4 [0] hs rfl<|Wu 4 [3] hs rfl<|Zy hs (Yg rfl (hQ1 3 _ rfl)<|Wp 3 [0] hs rfl ?_)
 obtain ⟨Gq6,rfl⟩:=ghostOf hs
 obtain rfl:k=f.nodes.length:=by omega
 rw [List.take_length] at hAN
 have hs:=hs.nilRow 45 1
 have hs:=hs.f3.f3.f3.f3
 refine Zl [2,3,131,132,133] (fun m E w=>∃ (k:Nat) (vr:Value) (rs:List Value) (G2:Ghost),k≤f.routes.length∧LRowI G2 rs (f.routes.take k)∧Gq6.le G2∧m=f.routes.length-k∧E=⟨[],[(2,Vp b2),(3,Vp b3),(131,.slice Ar f.routes.length cr),(132,Vi ((f.routes.length:Nat):Int)),(133,Vi (k:Int))]⟩∧St ⟨w0,G,feet []⟩ G2 [.row 45 1 vr k rs,.row 61 4 vn f.nodes.length ncs.flatten,.blk b3 38 [.slice A25 f.progs.length c25,vn,.slice A18 f.edges.length c18,vr],.blk b2 38 [Vn,Vn,Vn,Vn]] w) rfl (⟨0,_,[],_,by omega,trivial,Ghost.le.refl _,rfl,rfl,hs⟩) fun m E w hI=>?_
 obtain ⟨k,vr,rs,G2,hk,hLr,hGG6,rfl,rfl,hs⟩:=hI
 have hf:=hf0.mono hs.le
 have hE18:=hE18.mono hGG6
 have hQ1:=hQ1.mono hGG6
 have hPgs:=hPgs.mono hGG6
 have hAN:=hAN.mono hGG6
 refine Wt 2 [] hs rfl<|Zy hs (Yc rfl (fun h134=>?_) fun h134=>?_)
 ·
  refine Wp 8 [0] hs rfl<|Zy hs (Y_idxS hf.r k underlying36 sizeOf45 rfl rfl rfl oM fun p135 c135 hp135 hc135 hR135=>?_)
  obtain ⟨u135,rfl,hv135⟩:=hR135
  obtain ⟨Ax,cx,rfl,_⟩:=id hv135
  have hvz:=hz.r _ (List.getElem_mem (show k<f.routes.length by omega))
  refine Zy hs (Yg rfl (hp135 0 (.slice Ax f.routes[k].length cx) rfl)<|Wp 2 [0] hs rfl<|T_drawS [0,1,2,3,4] hs kR ?_)
  replace hs:=hs.drew
  refine Xr [0,1,2] [3,2] hs rfl ?_
  have hle:=hs.le
  refine Xo 3 rfl (Sc (clns_ok hv135 (int_one _) oM) hs rfl fun v19 G' H' _ hR hG140 hs=>?_)
  obtain ⟨rfl,hvc,_⟩:=hR
  replace hs:=hs.n rfl
  replace hGG6:=hGG6.mono hG140
  replace hLr:=hLr.mono hG140
  obtain ⟨A140,c140,rfl,_⟩:=id hvc
  refine A_moreS hs hle hG140 (List.Sublist.refl _) ?_
  have hle:=hs.le
  refine Xo 4 rfl (S_lit hs underlying36 sizeOf45 zeroValue45 rfl rfl dC dC rfl (cs:=[_]) rfl rfl fun v20 _ hs _=>?_)
  obtain ⟨_,hG141,hl141,hs⟩:=hs.fixRow noM
  replace hGG6:=hGG6.mono hG141
  replace hLr:=hLr.mono hG141
  replace hvc:=hvc.mono hG141
  refine A_moreS hs hle hG141 (List.Sublist.refl _)<|Xa 5 rfl (S_append hs underlying36 TI45 rfl dC rfl rfl (hl141) ((all_one rfl)) oM oM fun v21 _ hs =>Xa 6 rfl (S_y hs rfl (Yf 3 rfl<|Xn 7 rfl (Sd hs.f2 rfl (hs.f2.rowOne 1 rfl) fun _ hs=>Xe (Zk [2,3,131,132,133] rfl ?_)))))
  refine Zr<|Zy hs (Ya (s:=((k+1:Nat):Int)) rfl<|Wp 1 [] hs rfl ?_)
  have hs:=hs.f3.f1.f3.f3
  refine Zx [2,3,131,132,133] rfl ⟨k+1,_,rs++[.slice A140 f.routes[k].length c140],_,by omega,(by rw [take_succ' oM];exact hLr.snoc hvc),hGG6,rfl,rfl,hs⟩
 refine Wp 4 [0] hs rfl ?_
 obtain rfl:k=f.routes.length:=by omega
 rw [List.take_length] at hLr
 obtain ⟨_,hG_hfr,hfr,hs⟩:=hs.fixRow noM
 replace hE18:=hE18.mono hG_hfr
 replace hPgs:=hPgs.mono hG_hfr
 replace hAN:=hAN.mono hG_hfr
 replace hLr:=hLr.mono hG_hfr
 obtain ⟨A36r,c36r,h36e,_⟩:=id hfr
 have hRts:Rts _ _ f.routes:=LRowI.fin hfr rfl hLr
 subst h36e
 refine Wu 3 [1] hs rfl<|O_n (S_stA hs.f2 sizeOf38 rfl rfl (vs:=[_,_,_,_]) rfl Z18 sM (cs':=[_,_,_,_]) rfl fun _ hs =>Wp 1 [0] hs rfl<|T_ret ?_)
 have hs:=hs.f1
 refine Zz results55 (Rb 1 hs rfl rF) ?_
 exact ⟨_,_,hs.weak hs.le (Ghost.le.refl _) (List.sublist_append_left [_] _),_,_,_,_,ncs,rfl,hPgs,eds_of hE18,hRts,hAN,rfl⟩
def setF (f:FltM) (n v:Nat):FltM:={ f with nodes:=f.nodes.modify n fun x=>{ x with runs:=(v:Int),claims:=(v:Int) } }
theorem modify_set {α:Type} {l:List α} {n:Nat} {f:α→α} (h:n<l.length):l.modify n f=l.set n (f l[n]):=by
  apply List.ext_getElem
  · simp
  · intro i h1 h2
    rw [List.getElem_modify,List.getElem_set]
    split
    · rename_i e;subst e;rfl
    · rfl
theorem node_set {css:List (List Value)} {i:Nat} {c:List Value} {a b:Value} (hk:∀ c∈css,c.length=4) (hc:css[i]?=some c):(css.flatten.set (i*4+1) a).set (i*4+2) b=(css.set i ((c.set 1 a).set 2 b)).flatten:=by
  have hi:=(List.getElem?_eq_some_iff.1 hc).1
  have hl:=hk c (List.mem_of_getElem? hc)
  rw [flatK_set hk hc dC,flatK_set (c:=c.set 1 a) (setK_len hk (by simpa using hl)) (List.getElem?_set_self hi) dC,List.set_set]
theorem AccN.set {G:Ghost} {css:List (List Value)} {f:FltM} {n v:Nat} {c:List Value} (h:AccN G css f.nodes) (hn:n<f.nodes.length) (hc:css[n]?=some c):AccN G (css.set n ((c.set 1 (Vi (v:Int))).set 2 (Vi (v:Int)))) (setF f n v).nodes:=by
  obtain ⟨c',hc',u,e,hu⟩:=All2.get n h.1 hn
  rw [hc] at hc'
  injection hc' with hc'
  have e1:(setF f n v).nodes=f.nodes.set n { f.nodes[n] with runs:=(v:Int),claims:=(v:Int) }:=by
    unfold setF;exact modify_set hn
  rw [e1]
  refine ⟨All2.put h.1 ⟨u,by rw [hc',e];rfl,hu⟩,setK_len h.2 ?_⟩
  rw [hc',e];rfl
theorem setF_len {f:FltM} {n v:Nat}:(setF f n v).nodes.length=f.nodes.length:=by unfold setF;simp
theorem fsetb_ok {a b:Int} {G:Ghost} {Ap An Ae Ar:Option Addr} {cp cn ce cr:Nat} {f:FltM} (hf:FltC G Ap An Ae Ar cp cn ce cr f) (hz:FSz f) (hP:∀ p∈f.progs,OkP p) (hT:Tab G) (hC:¬ checkE f=0) :
  FnOk prog 25 [(.agg (fltL Ap An Ae Ar cp cn ce cr f).toArray),Vi a,Vi b] G [] fun r _ H'=>H'=[]∧r=.tuple #[.agg #[Vn,Vn,Vn,Vn],Vi (checkE f)]:=by
 show FnOk _ _ [.agg #[.slice Ap f.progs.length cp,.slice An f.nodes.length cn,.slice Ae f.edges.length ce,.slice Ar f.routes.length cr],Vi a,Vi b] _ _ _
 refine FnOk.of_T [(0,_),(1,_),(2,_)] func25 rfl ntmps25 sM rfl fun w0 hs=>?_
 have hf0:=hf
 have hT0:=hT
 refine Wt 2 [] hs rfl<|O_s (Sb hs rfl fun b3 _ hs=>O_s (Sa hs zeroValue38 rfl fun b6 _ hs=>Wp 6 [0,1] hs rfl<|O_s (Sc (fval_ok hf hz hP hT) hs rfl fun v1 G' H' _ hR hG11 hs=>?_)))
 obtain ⟨rfl,rfl⟩:=hR
 replace hs:=hs.n rfl
 refine Wp 5 [0] hs rfl<|Zy hs (Y_cmpT rfl rfl rfl (hC)<|Wp 4 [0] hs rfl<|Zy hs (Y_build zeroValue38 rfl PL38 rfl (cs:=[_,_,_,_]) rfl<|Wp 1 [] hs rfl<|O_n (Sg hs rfl (rfl) fun _ hs=>Wp 2 [0] hs rfl<|T_ret ?_)))
 have hr:=hs
 refine Rt_fin (vs:=[_,_]) results25 rfl ⟨ResOk_blk 0 hr isAgg38 sizeOf38 rfl (cs:=[_,_,_,_]) rfl rfl,rfl,trivial⟩ ?_
 try dsimp only [tup]
 exact ⟨_,[],hs.done,rfl,rfl⟩
theorem fset_ok {n v:Nat} {G:Ghost} {Ap An Ae Ar:Option Addr} {cp cn ce cr:Nat} {f:FltM} (hf:FltC G Ap An Ae Ar cp cn ce cr f) (hz:FSz f) (hP:∀ p∈f.progs,OkP p) (hT:Tab G) (hsz:∀ p∈f.progs,szP p=true) (hC:checkE f=0) (hn:n<f.nodes.length) (hv:v<f.nodes[n].vers.length) :
  FnOk prog 25 [(.agg (fltL Ap An Ae Ar cp cn ce cr f).toArray),Vi (n:Int),Vi (v:Int)] G [] fun r G' H'=>H'=[]∧∃ w,r=.tuple #[w,Vi 0]∧FltR G' w (setF f n v):=by
 obtain ⟨hc0,hc1,hcn,hce,hcr⟩:=ce_inv hC
 show FnOk _ _ [.agg #[.slice Ap f.progs.length cp,.slice An f.nodes.length cn,.slice Ae f.edges.length ce,.slice Ar f.routes.length cr],Vi (n:Int),Vi (v:Int)] _ _ _
 refine FnOk.of_T [(0,_),(1,_),(2,_)] func25 rfl ntmps25 sM rfl fun w0 hs=>?_
 have hf0:=hf
 have hT0:=hT
 refine Wt 2 [] hs rfl<|O_s (Sb hs rfl fun b3 _ hs=>O_s (Sa hs zeroValue38 rfl fun b6 _ hs=>Wp 6 [0,1] hs rfl<|O_s (Sc (fval_ok hf hz hP hT) hs rfl fun v1 G' H' _ hR hG11 hs=>?_)))
 obtain ⟨rfl,rfl⟩:=hR
 replace hs:=hs.n rfl
 replace hf:=hf.mono hG11
 rw [hC]
 refine Wp 16 [0,0,1,1] hs rfl<|O_s (Sc (fin_ok) hs rfl fun v2 G' H' _ hR hG20 hs=>?_)
 obtain ⟨rfl,rfl⟩:=hR
 replace hs:=hs.n rfl
 replace hf:=hf.mono hG20
 rw [show inB (n:Int) (f.nodes.length:Int)=true from inB_iff.2 oM]
 refine Wp 6 [1,1] hs rfl<|Zg hs rfl (Y_idxS hf.n n underlying34 sizeOf61 rfl rfl rfl hn fun p27 c27 hp27 hc27 hR27=>?_)
 obtain ⟨u27,rfl,hv27⟩:=hR27
 obtain ⟨Av,cv,rfl,_⟩:=id hv27
 refine Zg hs rfl (Y_fieldAddrP O61_0.p rfl<|Zg hs rfl (Yg rfl (hp27 0 (.slice Av f.nodes[n].vers.length cv) rfl)<|Wp 1 [] hs rfl<|O_yes 22 rfl rfl (Sc (fin_ok) hs rfl fun v3 G' H' _ hR hG31 hs=>?_)))
 obtain ⟨rfl,rfl⟩:=hR
 replace hs:=hs.n rfl
 replace hf:=hf.mono hG31
 rw [show inB (v:Int) (f.nodes[n].vers.length:Int)=true from inB_iff.2 oM]
 refine Wp 8 [5,1,2,3,6,33,1] hs rfl<|O_s (Sc (fcop_ok hf hz hsz oM oM) hs rfl fun v4 G' H' _ hR hG36 hs=>?_)
 obtain ⟨vp,vn,ve,vr,css,rfl,hPg,hEd,hRt,hAN,rfl⟩:=hR
 replace hs:=hs.n rfl
 obtain ⟨Ap2,cp2,rfl⟩:=LstR.slice hPg
 obtain ⟨Ae2,ce2,rfl⟩:=LstR.slice hEd
 obtain ⟨Ar2,cr2,rfl⟩:=LstR.slice hRt
 refine O_s (Sa hs zeroValue38 rfl fun b9 _ hs=>O_n (Sg hs rfl (by simp only [List.all_cons,List.all_nil,hs.rowOne 1 rfl];rfl) fun _ hs=>Wp 1 [0] hs rfl ?_))
 obtain ⟨bn,cn2,rfl,_⟩:=hs.rowForm 1 rfl oM
 obtain ⟨c0,hc0,_⟩:=All2.get n hAN.1 hn
 have hs:=hs.f1
 have hsW:=hs.drop
 refine Wu 1 [] hs rfl<|T_drawS [0,1,2,3,4,5,6,7,8,9,10,11,12] hsW kR ?_
 replace hs:=hs.drew
 replace hsW:=hsW.drew
 refine Xr [0,1,2,3,4,5,6,7] [1,0,1,0] hsW rfl<|Xt 8 hsW rfl (Y_idxRowK n underlying34 sizeOf61 rfl rfl rfl hn<|Xt 9 hsW rfl (Yf (n*4+1) rfl ?_))
 have hle:=hs.le
 refine Xm 10 rfl (S_stRowC hs sizeOf3 rfl rfl rfl oM fun _ hs=>?_)
 have hsW:=hs.drop
 refine A_moreS hsW hle (Ghost.le.refl _) (List.Sublist.refl _)<|Xt 11 hsW rfl (Y_idxRowK n underlying34 sizeOf61 rfl rfl rfl hn<|Xt 12 hsW rfl (Yf (n * 4+2) rfl<|Xn 13 rfl (S_stRowC hs sizeOf3 rfl rfl rfl oM fun _ hs=>?_)))
 rw [node_set hAN.2 hc0] at hs
 refine Xe (Zk [6,9] rfl<|Wu 3 [1] hs rfl<|O_n (Sg hs.f2 rfl Z18 fun _ hs=>Wp 2 [0] hs rfl<|T_ret ?_))
 have hs:=hs.f1
 obtain ⟨_,hG_hfn,hfn,hs⟩:=hs.fixRow noM
 replace hPg:=hPg.mono hG_hfn
 replace hEd:=hEd.mono hG_hfn
 replace hRt:=hRt.mono hG_hfn
 replace hAN:=hAN.mono hG_hfn
 have hr:=hs
 refine Rt_fin (vs:=[_,_]) results25 rfl ⟨ResOk_blk 0 hr isAgg38 sizeOf38 rfl (cs:=[_,_,_,_]) rfl rfl,rfl,trivial⟩ ?_
 try dsimp only [tup]
 exact ⟨_,[],hs.done,rfl,_,rfl,FltR.of hPg ((hAN.set (v:=v) hn hc0).fin hfn (by rw [setF_len])) hEd hRt⟩
def els1:List StmtM→List StmtM
  | []=>[]
  | s::l=>{ s with els:=1 }::l
theorem StR.setEls {G:Ghost} {c:List Value} {s:StmtM} (h:StR G c s) (z:Int):StR G (c.set 32 (Vi z)) { s with els:=z }:=by
  obtain ⟨wb,wo,wn,wp,wy,wr,rfl,h⟩:=h
  exact ⟨wb,wo,wn,wp,wy,wr,rfl,h⟩
theorem StR.setThn {G:Ghost} {c:List Value} {s:StmtM} (h:StR G c s) (z:Int):StR G (c.set 31 (Vi z)) { s with thn:=z }:=by
  obtain ⟨wb,wo,wn,wp,wy,wr,rfl,h⟩:=h
  exact ⟨wb,wo,wn,wp,wy,wr,rfl,h⟩
theorem LRows.len {G:Ghost} {vs:List Value} {l:List (List Nat)} (h:LRows G vs l):vs.length=l.length:=All2.length h
theorem StR.plain {G:Ghost} {s:StmtM} (h1:s.b=[]) (h2:s.op.old=[]) (h3:s.op.new=[]) (h4:s.p=[]) (h5:s.ys=[]) (h6:s.cond.r=[]):StR G (stmC s (Vn) (Vn) (Vn) (Vn) (Vn) (Vn)) s:=by
  refine ⟨_,_,_,_,_,_,rfl,⟨?_,fun _=>rfl⟩,⟨?_,fun _=>rfl⟩,⟨?_,fun _=>rfl⟩,⟨?_,fun _=>rfl⟩,⟨?_,fun _=>rfl⟩,⟨?_,fun _=>rfl⟩⟩
  · rw [h1];exact Sl.nil _ _
  · rw [h2];exact Sl.nil _ _
  · rw [h3];exact Sl.nil _ _
  · rw [h4];exact LstR.nil
  · rw [h5];exact Sl.nil _ _
  · rw [h6];exact LstR.nil
theorem els1_acc {G:Ghost} {es:List (List Value)} {l:List StmtM} {c:List Value} {s:StmtM} (hE:AccS G es l) (hs:l[0]?=some s) (hc:StR G c s):AccS G (es.set 0 (c.set 32 (Vi 1))) (els1 l):=by
  cases l with
  | nil=>cases hs
  | cons a l =>
    injection hs with hs;subst hs
    exact hE.put (i:=0) (hc.setEls 1)
def fldM (nm:List UInt8) (x:Int):StmtM:={ zeroS 13 with name:=nm,x:=x }
def rejM:StmtM:={ zeroS 14 with i:=1 }
theorem pgR_of {G:Ghost} {vs vb:Value} {es:List (List Value)} {us:List Value} {p:ProgM} {n k:Nat} (hE:AccS G es p.stmts) (hU:LRows G us p.blocks) (h1:Sl G vs 33 n es.flatten) (h2:Sl G vb 1 k us) (hn:n=p.stmts.length) (hk:k=p.blocks.length) (h3:p.stmts≠[]) (h4:p.blocks≠[]):PgR G [vs,vb] p :=
  ⟨vs,vb,rfl,⟨hE.fin h1 hn,fun h=>absurd h h3⟩,⟨LRows.fin h2 hk hU,fun h=>absurd h h4⟩⟩
theorem rgrd_ok {G:Ghost} {b n:Nat} {css:List (List Value)} {ss:List StmtM} (hn:ss.length=n) (h1:1≤n) (h2:n≤100) (hA:AccS G css ss) :
  FnOk prog 58 [(Vs b n n)] G [.row 114 33 (Vs b n n) n css.flatten] fun r G' H'=>∃ vs vb es us,r=.agg #[vs,vb]∧AccS G' es (els1 (ss.map lineS)++[rejM])∧LRows G' us [List.range n,[n]]∧H'=[.row 114 33 vs (n+1) es.flatten,.row 45 1 vb 2 us]:=by
 refine FnOk.of_T [(0,_)] func58 rfl ntmps58 sM rfl fun w0 hs=>?_
 have hA0:=hA
 have hM0:=hs.feetLt
 refine Wt 2 [] hs rfl<|O_s (Sa hs zeroValue70 rfl fun b2 _ hs=>Wp 4 [0] hs rfl<|O_s (Sc (rlin_ok hn h1 h2 hA) hs.f1 rfl fun v1 G' H' _ hR hG5 hs=>?_))
 obtain ⟨vs,vb,es,u,rfl,hE,hU,rfl⟩:=hR
 replace hs:=hs.n rfl
 refine O_s (Sa hs zeroValue70 rfl fun b3 _ hs=>O_n (Sg hs rfl (by simp only [List.all_cons,List.all_nil,hs.rowOne 1 rfl,hs.rowOne 2 rfl];rfl) fun _ hs=>Wp 1 [0] hs rfl ?_))
 obtain ⟨bs,cs,rfl,_⟩:=hs.rowForm 1 rfl oM
 obtain ⟨s0,hs0⟩:∃ s,(ss.map lineS)[0]?=some s:=⟨_,List.getElem?_eq_getElem Z40⟩
 obtain ⟨c0,hc0,hsr0⟩:=hE.at_ hs0
 refine Wu 4 [0,0] hs rfl<|Zy hs (Y_idxRowK (0) underlying68 sizeOf114 rfl rfl rfl oM<|Zy hs (Yf (0 * 33+32) rfl<|O_n (S_stRowC hs.f1 sizeOf3 rfl rfl rfl oM fun _ hs=>?_)))
 rw [flatK_set (k:=33) hE.2 hc0 dC] at hs
 refine Wp 8 [0,1,1,0,1] hs rfl<|O_s (S_litF hs hM0 underlying45 sizeOf3 zeroValue3 rfl rfl dC dC rfl (cs:=[_]) rfl rfl fun v2 _ _ hG15 hl15 hs=>?_)
 replace hE:=hE.mono hG15
 replace hU:=hU.mono hG15
 replace hsr0:=hsr0.mono hG15
 obtain ⟨A15,c15,rfl,_⟩:=id hl15
 refine O_s (S_litF hs hM0 underlying36 sizeOf45 zeroValue45 rfl rfl dC dC rfl (cs:=[_]) rfl rfl fun v3 _ _ hG16 hl16 hs=>?_)
 replace hE:=hE.mono hG16
 replace hU:=hU.mono hG16
 replace hsr0:=hsr0.mono hG16
 replace hl15:=hl15.mono hG16
 refine O_s (S_append hs.f2 underlying36 TI45 rfl dC rfl rfl (hl16) (one1 rfl) oM oM fun v4 _ hs =>Wp 1 [1] hs rfl<|O_n (Sd hs.f2 rfl (hs.f2.rowOne 1 rfl) fun _ hs=>Wp 2 [0] hs rfl<|T_drawS [0,1,2,3] hs kR ?_))
 replace hs:=hs.drew
 refine Xr [0,1] [0,0] hs rfl ?_
 have hle:=hs.le
 refine Xo 2 rfl (Sc (rrej_ok) hs rfl fun v5 G' H' _ hR hG21 hs=>?_)
 obtain ⟨rfl,rfl⟩:=hR
 replace hs:=hs.n rfl
 replace hE:=hE.mono hG21
 replace hU:=hU.mono hG21
 replace hsr0:=hsr0.mono hG21
 replace hl15:=hl15.mono hG21
 refine A_moreS hs hle hG21 (List.Sublist.refl _) ?_
 have hle:=hs.le
 refine Xo 3 rfl (S_litKF hs hM0 underlying68 sizeOf114 zeroValue114 kR kR kR rfl (es:=[[_,_,_,_,_,_,_,_,_,_,_,_,_,_,_,_,_,_,_,_,_,_,_,_,_,_,_,_,_,_,_,_,_]]) rfl rfl fun v6 _ _ hG22 hl22 hs=>?_)
 replace hE:=hE.mono hG22
 replace hU:=hU.mono hG22
 replace hsr0:=hsr0.mono hG22
 replace hl15:=hl15.mono hG22
 refine A_moreS hs hle hG22 (List.Sublist.refl _)<|Xa 4 rfl (S_append hs.f2 underlying68 TI114 rfl dC rfl rfl (hl22) ((all_one rfl)) oM oM fun v7 _ hs =>Xa 5 rfl (S_y hs rfl (Yf 0 rfl<|Xn 6 rfl (Sd hs.f1 rfl (hs.f1.rowOne 1 rfl) fun _ hs=>Xe (Zk [2,3] rfl<|Wu 3 [0] hs rfl<|O_n (Sg hs.f3 rfl (by simp only [List.all_cons,List.all_nil,hs.f3.rowOne 2 rfl,hs.f3.rowOne 3 rfl];rfl) fun _ hs=>Wp 1 [0] hs rfl<|T_ret ?_))))))
 have hs:=hs.f3.f3
 refine Zz results58 (Rb 2 hs rfl rF) ?_
 exact ⟨_,_,hs.weak hs.le (Ghost.le.refl _) (List.sublist_append_left [_,_] _),_,_,_++[stmC rejM (Vn) (Vn) (Vn) (Vn) (Vn) (Vn)],[u,.slice A15 1 c15],rfl,(els1_acc hE hs0 hsr0).snoc (StR.plain rfl rfl rfl rfl rfl rfl) rfl,⟨hU,hl15,trivial⟩,by rw [List.flatten_append];rfl⟩
def ifM (cd:CondM):StmtM:={ zeroS 10 with cond:=cd,thn:=0,els:=0 }
def choM (cd:CondM):List StmtM:=[{ zeroS 10 with cond:=cd,thn:=1,els:=2 },fldM [120] 0,fldM [121] 0]
theorem StR.ifS {G:Ghost} {cd:CondM} {vr:Value} (hr:Rx G vr cd.r) (hz:NilV vr cd.r):StR G (stmC (ifM cd) (Vn) (Vn) (Vn) (Vn) (Vn) vr) (ifM cd) :=
  ⟨_,_,_,_,_,_,rfl,⟨Sl.nil _ _,fun _=>rfl⟩,⟨Sl.nil _ _,fun _=>rfl⟩,⟨Sl.nil _ _,fun _=>rfl⟩,⟨LstR.nil,fun _=>rfl⟩,⟨Sl.nil _ _,fun _=>rfl⟩,⟨hr,hz⟩⟩
theorem AccS.one {G:Ghost} {c:List Value} {s:StmtM} (h:StR G c s):AccS G [c] [s]:=⟨⟨h,trivial⟩,fun d hd=>by rw [List.mem_singleton.1 hd];exact h.len⟩
theorem cho_acc {G:Ghost} {es:List (List Value)} {c:List Value} {s:StmtM} (hE:AccS G es [s]) (hs:es[0]?=some c):AccS G (es.set 0 ((c.set 31 (Vi 1)).set 32 (Vi 2))) [{ s with thn:=1,els:=2 }]:=by
  obtain ⟨c',hc,hs'⟩:=hE.at_ (i:=0) (s:=s) rfl
  rw [hs] at hc
  injection hc with hc;subst hc
  exact hE.put (i:=0) ((hs'.setThn 1).setEls 2)
theorem rcho_ok {G:Ghost} {cd:CondM} {Ar:Option Addr} {kr:Nat} (hr:Rx G (.slice Ar cd.r.length kr) cd.r) (hz:NilV (.slice Ar cd.r.length kr) cd.r) :
  FnOk prog 61 [.agg #[Vi cd.kind,.bool cd.neg,Vi cd.x,Vi cd.y,Vi cd.n,Vi cd.k,.slice Ar cd.r.length kr]] G [] fun r G' H'=>∃ vs vb es us,r=.agg #[vs,vb]∧AccS G' es (choM cd)∧LRows G' us [[0],[1],[2]]∧H'=[.row 114 33 vs 3 es.flatten,.row 45 1 vb 3 us]:=by
 refine FnOk.of_T [(0,_)] func61 rfl ntmps61 sM rfl fun w0 hs=>?_
 have hr0:=hr
 refine Wt 2 [] hs rfl<|O_s (Sb hs rfl fun b1 _ hs=>O_s (Sa hs zeroValue70 rfl fun b2 _ hs=>Wp 4 [0,1] hs rfl<|Zy hs (Y_build zeroValue114 rfl PL114 rfl (cs:=[_,_,_,_,_,_,_,_,_,_,_,_,_,_,_,_,_,_,_,_,_,_,_,_,_,_,_,_,_,_,_,_,_]) rfl<|O_s (S_litK hs underlying68 sizeOf114 zeroValue114 kR kR kR rfl (es:=[[_,_,_,_,_,_,_,_,_,_,_,_,_,_,_,_,_,_,_,_,_,_,_,_,_,_,_,_,_,_,_,_,_]]) rfl rfl fun v1 _ hs shl=>?_))))
 obtain ⟨bl6,rfl⟩:=shl
 refine O_s (Sc (rlin_ok (b:=bl6) (n:=1) (css:=[[Vi 10,Vi 0,Vi 0,Vi 0,Vi 0,Vi 0,Vi 0,Vn,Vf,Vi 0,Vn,Vn,u64V 0,u64V 0,u64V 0,u64V 0,Vi 0,Vi 0,Vi 0,Vi 0,Vf,Vn,Vn,Vi cd.kind,.bool cd.neg,Vi cd.x,Vi cd.y,Vi cd.n,Vi cd.k,.slice Ar cd.r.length kr,.string ⟨[].toArray⟩,Vi 0,Vi 0]]) (ss:=[ifM cd]) rfl dC dC (AccS.one (StR.ifS hr hz))) hs rfl fun v2 G' H' _ hR hG7 hs=>?_)
 obtain ⟨vs,vb,es,u,rfl,hE,hU,rfl⟩:=hR
 replace hs:=hs.n rfl
 refine O_s (Sa hs zeroValue70 rfl fun b3 _ hs=>O_n (Sg hs rfl (by simp only [List.all_cons,List.all_nil,hs.rowOne 1 rfl,hs.rowOne 2 rfl];rfl) fun _ hs=>Wp 1 [0] hs rfl ?_))
 obtain ⟨bs,cs,rfl,_⟩:=hs.rowForm 1 rfl dC
 obtain ⟨c0,hc0,_⟩:=hE.at_ (i:=0) rfl
 refine Wu 4 [0,0] hs rfl<|Zy hs (Y_idxRowK (0) underlying68 sizeOf114 rfl rfl rfl oM<|Zy hs (Yf (0 * 33+31) rfl<|O_n (S_stRowC hs.f1 sizeOf3 rfl rfl rfl oM fun _ hs =>Wp 5 [0,0,1] hs rfl<|Zy hs (Y_idxRowK (0) underlying68 sizeOf114 rfl rfl rfl oM<|Zy hs (Yf (0 * 33+32) rfl<|O_n (S_stRowC hs sizeOf3 rfl rfl rfl oM fun _ hs=>?_))))))
 rw [line_set (c:=c0) hE.2 hc0 rfl] at hs
 refine Wp 5 [0,1,1] hs rfl<|O_s (Se hs zeroValue3 rfl fun v3 _ hs _=>?_)
 have hsN:=hs.fixRow noM
 clear hs
 obtain ⟨_,hG18,hl18,hs⟩:=hsN
 replace hE:=hE.mono hG18
 replace hU:=hU.mono hG18
 obtain ⟨A18,c18,rfl,_⟩:=id hl18
 refine O_s (Se hs zeroValue45 rfl fun v4 _ hs _=>?_)
 obtain ⟨_,hG19,hl19,hs⟩:=hs.fixRow noM
 replace hE:=hE.mono hG19
 replace hU:=hU.mono hG19
 replace hl18:=hl18.mono hG19
 refine O_s (S_append hs.f2 underlying36 TI45 rfl dC rfl rfl (hl19) (one1 rfl) oM oM fun v5 _ hs =>Wp 1 [1] hs rfl<|O_n (Sd hs.f2 rfl (hs.f2.rowOne 1 rfl) fun _ hs=>Wp 5 [2,2,3,1,0] hs rfl<|O_s (Se hs zeroValue3 rfl fun v6 _ hs _=>?_)))
 have hsN:=hs.fixRow noM
 clear hs
 obtain ⟨_,hG24,hl24,hs⟩:=hsN
 replace hE:=hE.mono hG24
 replace hU:=hU.mono hG24
 replace hl18:=hl18.mono hG24
 obtain ⟨A24,c24,rfl,_⟩:=id hl24
 refine O_s (Se hs zeroValue45 rfl fun v7 _ hs _=>?_)
 obtain ⟨_,hG25,hl25,hs⟩:=hs.fixRow noM
 replace hE:=hE.mono hG25
 replace hU:=hU.mono hG25
 replace hl18:=hl18.mono hG25
 replace hl24:=hl24.mono hG25
 refine O_s (S_append hs.f1 underlying36 TI45 rfl dC rfl rfl (hl25) (one1 rfl) oM oM fun v8 _ hs =>Wp 1 [1] hs rfl<|O_n (Sd hs.f1 rfl (hs.f1.rowOne 1 rfl) fun _ hs=>Wp 2 [0] hs rfl<|T_drawS [0,1,2,3] hs kR ?_))
 replace hs:=hs.drew
 refine Xr [0,1] [0,0] hs rfl ?_
 have hle:=hs.le
 refine Xo 2 rfl (Sc (rfld0_ok (x:=0)) hs rfl fun v9 G' H' _ hR hG30 hs=>?_)
 obtain ⟨rfl,rfl⟩:=hR
 replace hs:=hs.n rfl
 replace hE:=hE.mono hG30
 replace hU:=hU.mono hG30
 replace hl18:=hl18.mono hG30
 replace hl24:=hl24.mono hG30
 refine A_moreS hs hle hG30 (List.Sublist.refl _) ?_
 have hle:=hs.le
 refine Xo 3 rfl (S_litK hs underlying68 sizeOf114 zeroValue114 kR kR kR rfl (es:=[[_,_,_,_,_,_,_,_,_,_,_,_,_,_,_,_,_,_,_,_,_,_,_,_,_,_,_,_,_,_,_,_,_]]) rfl rfl fun v10 _ hs _=>?_)
 obtain ⟨_,hG31,hl31,hs⟩:=hs.fixRow noM
 replace hE:=hE.mono hG31
 replace hU:=hU.mono hG31
 replace hl18:=hl18.mono hG31
 replace hl24:=hl24.mono hG31
 refine A_moreS hs hle hG31 (List.Sublist.refl _)<|Xa 4 rfl (S_append hs.f2 underlying68 TI114 rfl dC rfl rfl (hl31) ((all_one rfl)) oM oM fun v11 _ hs =>Xa 5 rfl (S_y hs rfl (Yf 0 rfl<|Xn 6 rfl (Sd hs.f1 rfl (hs.f1.rowOne 1 rfl) fun _ hs=>Xe (Zk [2,3] rfl<|Wu 1 [] hs rfl<|T_drawS [0,1,2,3] hs kR ?_)))))
 replace hs:=hs.drew
 refine Xr [0,1] [0,0] hs rfl ?_
 have hle:=hs.le
 refine Xo 2 rfl (Sc (rfld1_ok (x:=0)) hs rfl fun v12 G' H' _ hR hG36 hs=>?_)
 obtain ⟨rfl,rfl⟩:=hR
 replace hs:=hs.n rfl
 replace hE:=hE.mono hG36
 replace hU:=hU.mono hG36
 replace hl18:=hl18.mono hG36
 replace hl24:=hl24.mono hG36
 refine A_moreS hs hle hG36 (List.Sublist.refl _) ?_
 have hle:=hs.le
 refine Xo 3 rfl (S_litK hs underlying68 sizeOf114 zeroValue114 kR kR kR rfl (es:=[[_,_,_,_,_,_,_,_,_,_,_,_,_,_,_,_,_,_,_,_,_,_,_,_,_,_,_,_,_,_,_,_,_]]) rfl rfl fun v13 _ hs _=>?_)
 obtain ⟨_,hG37,hl37,hs⟩:=hs.fixRow noM
 replace hE:=hE.mono hG37
 replace hU:=hU.mono hG37
 replace hl18:=hl18.mono hG37
 replace hl24:=hl24.mono hG37
 refine A_moreS hs hle hG37 (List.Sublist.refl _)<|Xa 4 rfl (S_append hs.f1 underlying68 TI114 rfl dC rfl rfl (hl37) ((all_one rfl)) oM oM fun v14 _ hs =>Xa 5 rfl (S_y hs rfl (Yf 0 rfl<|Xn 6 rfl (Sd hs.f1 rfl (hs.f1.rowOne 1 rfl) fun _ hs=>Xe (Zk [2,3] rfl<|Wu 3 [0] hs rfl<|O_n (Sg hs.f3 rfl (by simp only [List.all_cons,List.all_nil,hs.f3.rowOne 2 rfl,hs.f3.rowOne 3 rfl];rfl) fun _ hs=>Wp 1 [0] hs rfl<|T_ret ?_))))))
 have hs:=hs.f3.f3
 refine Zz results61 (Rb 2 hs rfl rF) ?_
 exact ⟨_,_,hs.weak hs.le (Ghost.le.refl _) (List.sublist_append_left [_,_] _),_,_,_++[stmC (fldM [120] 0) (Vn) (Vn) (Vn) (Vn) (Vn) (Vn)]++[stmC (fldM [121] 0) (Vn) (Vn) (Vn) (Vn) (Vn) (Vn)],[u,.slice A18 1 c18,.slice A24 1 c24],rfl,((cho_acc hE hc0).snoc (StR.plain rfl rfl rfl rfl rfl rfl) rfl).snoc (StR.plain rfl rfl rfl rfl rfl rfl) rfl,⟨hU,hl18,hl24,trivial⟩,by rw [List.flatten_append,List.flatten_append];rfl⟩
theorem rbfr_ok {G:Ghost} {bb:Nat} {vs vb:Value} {z1 z1' z3 z4 j:Int} {z2:Bool} (h0:0≤z1) (h12:z1+1≤12) (hz:z1+1=z1') :
  FnOk prog 131 [Vp bb] G [.blk bb 158 [vs,vb,Vi j,Vi z1,.bool z2,Vi z3,Vi z4]] fun r _ H'=>r=Vi z1∧H'=[.blk bb 158 [vs,vb,Vi j,Vi z1',.bool z2,Vi z3,Vi z4]]:=by
 subst hz
 refine FnOk.of_T [(0,_)] func131 rfl ntmps131 sM rfl fun w0 hs =>Wt 7 [0] hs rfl<|Zy hs (Y_nil rfl<|Wp 8 [3,0,0] hs rfl<|Zy hs (Y_nil rfl<|Wp 2 [3,0] hs rfl<|Zy hs (Y_add (c:=(z1+1)) rfl rfl (rfl) oM<|Zy hs (Y_min (c:=(z1+1)) rfl rfl oM<|Zy hs (Y_nil rfl<|Wp 1 [3] hs rfl<|O_n (Sd hs rfl rfl fun _ hs=>Wp 6 [0,0] hs rfl<|T_ret<|Zz results131 rfl ?_))))))
 exact ⟨_,_,hs,rfl,rfl⟩
theorem rbad_ok {G:Ghost} {bb bv cv k j n m:Nat} {vs x:Value} {xs:List Value} {css:List (List Value)} {l:List Nat} {z1 z3 z4:Int} {z2:Bool} {q0 q1 q2 q3 q4 q5 q6 q7 q8 q9 q10 q11 q12 q13 q14 q15 q16 q17 q18 q19 q20 q21 q22 q23 q24 q25 q26 q27 q28 q29 q30 q31 q32:Value} (hjk:j<k) (hx:xs[j]?=some x) (hlm:l.length=m) (hn:n≤1000) (hm:m≤1000) (h1:[q0,q1,q2,q3,q4,q5,q6,q7,q8,q9,q10,q11,q12,q13,q14,q15,q16,q17,q18,q19,q20,q21,q22,q23,q24,q25,q26,q27,q28,q29,q30,q31,q32].all (fun c=>c.oneCell')=true) :
  FnOk prog 93 [Vp bb,.agg #[q0,q1,q2,q3,q4,q5,q6,q7,q8,q9,q10,q11,q12,q13,q14,q15,q16,q17,q18,q19,q20,q21,q22,q23,q24,q25,q26,q27,q28,q29,q30,q31,q32]] G [.blk bb 158 [vs,(Vs bv k cv),Vi (j:Int),Vi z1,.bool z2,Vi z3,Vi z4],.row 114 33 vs n css.flatten,.row 45 1 (Vs bv k cv) k xs,.row 3 1 x m (l.map natV)] fun r _ H'=>∃ vs' x',H'=[.blk bb 158 [vs',(Vs bv k cv),Vi (j:Int),Vi z1,.bool z2,Vi z3,Vi z4],.row 114 33 vs' (n+1) (css++[[q0,q1,q2,q3,q4,q5,q6,q7,q8,q9,q10,q11,q12,q13,q14,q15,q16,q17,q18,q19,q20,q21,q22,q23,q24,q25,q26,q27,q28,q29,q30,q31,q32]]).flatten,.row 45 1 (Vs bv k cv) k (xs.set j x'),.row 3 1 x' (m+1) ((l++[n]).map natV)]:=by
 refine FnOk.of_T [(0,_),(1,_)] func93 rfl ntmps93 sM rfl fun w0 hs=>?_
 have hM0:=hs.feetLt
 refine Wt 2 [] hs rfl<|O_s (Sb hs rfl fun b3 _ hs=>Wp 1 [0] hs rfl ?_)
 have hs:=hs.f4
 have hsW:=hs.drop
 refine Wu 1 [] hs rfl<|T_drawS [0,1,2,3,4,5,6,7,8,9,10,11,12,13,14,15,16,17,18,19,20,21,22,23,24,25,26,27,28] hsW kR ?_
 replace hs:=hs.drew
 replace hsW:=hsW.drew
 refine Xr [0] [] hsW rfl<|Xt 1 hsW rfl (Y_nil rfl<|Xr [2,3,4,5] [0,1,1] hsW rfl<|Xt 6 hsW rfl (Y_nil rfl<|Xr [7,8,9] [2,1] hsW rfl<|Xt 10 hsW rfl (Y_nil rfl<|Xr [11,12,13,14] [0,1,1] hsW rfl<|Xt 15 hsW rfl (Y_nil rfl<|Xr [16,17] [2,1] hsW rfl<|Xt 18 hsW rfl (Y_idxRow (j) underlying36 sizeOf45 rfl rfl rfl oM<|Xt 19 hsW rfl (Y_ldRow 3 rfl isAgg45 rfl (hx)<|Xr [20] [] hsW rfl<|Xt 21 hsW rfl (Y_nil rfl<|Xr [22,23,24] [0,0,1] hsW rfl<|Xt 25 hsW rfl (Y_lenOwn 2 rfl underlying68 rfl hsW ?_))))))))
 have hle:=hs.le
 refine Xo 26 rfl (S_litF hs hM0 underlying45 sizeOf3 zeroValue3 rfl rfl dC dC rfl (cs:=[_]) rfl rfl fun v1 _ _ hG30 hl30 hs=>?_)
 have hsW:=hs.drop
 refine A_moreS hsW hle hG30 (List.Sublist.refl _) ?_
 have hle:=hs.le
 refine Xo 27 rfl (S_append hs underlying45 TI3 rfl dC rfl rfl (hl30) (one1 rfl) oM oM fun v2 _ hs=>?_)
 have hsW:=hs.drop
 refine A_moreS hsW hle (Ghost.le.refl _) (List.Sublist.refl _)<|Xt 28 hsW rfl (Y_idxRow (j) underlying36 sizeOf45 rfl rfl rfl oM<|Xn 29 rfl (S_stRow hs.f4 sizeOf45 rfl rfl (hs.f4.rowOne 1 rfl) oM fun _ hs =>Xe (Zk [0,3] rfl<|T_drawS [1,2,3,4,5,6,7] hs kR ?_)))
 replace hs:=hs.drew
 refine A_pure 0 rfl kR rfl (Y_move rfl<|Xr [1] [] hs rfl<|Xt 2 hs rfl (Y_nil rfl<|Xr [3,4,5,6] [0,0,3,2] hs rfl ?_))
 have hle:=hs.le
 refine Xo 7 rfl (S_litKF hs hM0 underlying68 sizeOf114 zeroValue114 kR kR kR rfl (es:=[[_,_,_,_,_,_,_,_,_,_,_,_,_,_,_,_,_,_,_,_,_,_,_,_,_,_,_,_,_,_,_,_,_]]) rfl rfl fun v3 _ _ hG40 hl40 hs =>A_moreS hs hle hG40 (List.Sublist.refl _)<|Xa 8 rfl (S_append hs.f4 underlying68 TI114 rfl dC rfl rfl (hl40) ((all_one h1)) oM oM fun v4 _ hs =>Xa 9 rfl (S_y hs rfl (Y_nil rfl<|Xa 10 rfl (S_y hs rfl (Yf 0 rfl<|Xa 11 rfl (S_y hs rfl (Yf 0 rfl<|Xn 12 rfl (Sd hs.f4 rfl (hs.f4.rowOne 1 rfl) fun _ hs=>?_)))))))))
 have hs:=hs.f3.f3.f3.f3
 refine A_done kR (Rt_finN (vs:=[]) results93 rfl trivial ?_)
 try dsimp only [tup]
 exact ⟨_,_,hs.weak hs.le (Ghost.le.refl _) (List.sublist_append_left [_,_,_,_] _),_,_,by rw [List.flatten_append,List.map_append];rfl⟩
theorem rbsu_ok {G:Ghost} {bb bv cv k j n:Nat} {vs:Value} {xs:List Value} {css:List (List Value)} {z1 z3 z4:Int} {z2:Bool} {q0 q1 q2 q3 q4 q5 q6 q7 q8 q9 q10 q11 q12 q13 q14 q15 q16 q17 q18 q19 q20 q21 q22 q23 q24 q25 q26 q27 q28 q29 q30 q31 q32:Value} (hk:k≤1000) (hxk:xs.length=k) (hn:n≤1000) (h1:[q0,q1,q2,q3,q4,q5,q6,q7,q8,q9,q10,q11,q12,q13,q14,q15,q16,q17,q18,q19,q20,q21,q22,q23,q24,q25,q26,q27,q28,q29,q30,q31,q32].all (fun c=>c.oneCell')=true) :
  FnOk prog 132 [Vp bb,.agg #[q0,q1,q2,q3,q4,q5,q6,q7,q8,q9,q10,q11,q12,q13,q14,q15,q16,q17,q18,q19,q20,q21,q22,q23,q24,q25,q26,q27,q28,q29,q30,q31,q32]] G [.blk bb 158 [vs,(Vs bv k cv),Vi (j:Int),Vi z1,.bool z2,Vi z3,Vi z4],.row 114 33 vs n css.flatten,.row 45 1 (Vs bv k cv) k xs] fun r _ H'=>r=Vi (k:Int)∧∃ vs' bw cw x',H'=[.blk bb 158 [vs',(Vs bw (k+1) cw),Vi (j:Int),Vi z1,.bool z2,Vi z3,Vi z4],.row 114 33 vs' (n+1) (css++[[q0,q1,q2,q3,q4,q5,q6,q7,q8,q9,q10,q11,q12,q13,q14,q15,q16,q17,q18,q19,q20,q21,q22,q23,q24,q25,q26,q27,q28,q29,q30,q31,q32]]).flatten,.row 45 1 (Vs bw (k+1) cw) (k+1) (xs++[x']),.row 3 1 x' 1 ([n].map natV)]:=by
 refine FnOk.of_T [(0,_),(1,_)] func132 rfl ntmps132 sM rfl fun w0 hs=>?_
 have hM0:=hs.feetLt
 refine Wt 2 [] hs rfl<|O_s (Sb hs rfl fun b3 _ hs=>Wp 5 [0] hs rfl<|Zy hs (Y_nil rfl<|Wp 10 [0,1,1,0] hs rfl<|Zy hs (Y_nil rfl<|Wp 3 [0,1,1] hs rfl<|O_s (Se hs zeroValue3 rfl fun v1 _ hs shl=>?_))))
 obtain ⟨bl19,rfl⟩:=shl
 refine O_s (S_litF hs hM0 underlying36 sizeOf45 zeroValue45 rfl rfl dC dC rfl (cs:=[_]) rfl rfl fun v2 _ _ hG20 hl20 hs =>O_s (S_append hs.f4 underlying36 TI45 rfl dC rfl rfl (hl20) (one1 rfl) oM oM fun v3 _ hs =>Zy hs (Y_nil rfl<|Wp 2 [0,1] hs rfl<|O_n (Sd hs.f3 rfl (hs.f3.rowOne 1 rfl) fun _ hs=>Wp 4 [3,0,3,5] hs rfl<|Zy hs (Y_nil rfl<|Wp 8 [2,0,0] hs rfl<|Zy hs (Y_nil rfl<|Wp 1 [2] hs rfl<|O_n (Sd hs rfl rfl fun _ hs=>Wp 1 [0] hs rfl ?_)))))))
 obtain ⟨bw,cw,rfl,_⟩:=hs.rowForm 1 rfl oM
 refine Wu 4 [3] hs rfl<|O_s (Sc (rbad_ok (k:=k+1) (j:=k) (m:=0) (l:=[]) (x:=Vs bl19 0 0) oM (by rw [List.getElem?_append_right oM,hxk,Nat.sub_self];rfl) rfl hn oM h1) hs.f2.f2.f4.f3 rfl fun v4 G' H' _ hR hG35 hs=>?_)
 obtain ⟨vsN,xN,rfl⟩:=hR
 replace hs:=hs.n rfl
 refine Wp 5 [0] hs rfl<|Zy hs (Y_nil rfl<|Wp 1 [2] hs rfl<|O_n (Sd hs rfl rfl fun _ hs=>Wp 6 [0,0] hs rfl<|T_ret ?_))
 have hs:=hs.f3.f3.f3.f3
 refine Zz results132 rfl ?_
 exact ⟨_,_,hs.weak hs.le (Ghost.le.refl _) (List.sublist_append_left [_,_,_,_] _),rfl,vsN,bw,cw,xN,by simp [hxk]⟩
theorem rblo_ok {G:Ghost} {bb bv cv:Nat} {x0:Value} {z3 z4:Int} {z2:Bool} :
  FnOk prog 92 [Vp bb,.agg #[.int .u8 0,.int .u8 0,.int .u8 1,.int .u8 1],Vi 0] G [.blk bb 158 [Vn,(Vs bv 1 cv),Vi 0,Vi 1,.bool z2,Vi z3,Vi z4],.row 114 33 (Vn) 0 [],.row 45 1 (Vs bv 1 cv) 1 [x0],.row 3 1 x0 0 []] fun r G' H'=>∃ vs bz cz xb xe xd A77 c77,Bytes G' (.slice A77 1 c77) [97]∧H'=[.blk bb 158 [vs,(Vs bz 3 cz),Vi 0,Vi 2,.bool z2,Vi z3,Vi z4],.row 114 33 vs 5 [[Vi 1,Vi 0,Vi 1,Vi 0,Vi 0,Vi 0,Vi 0,Vn,Vf,Vi 0,Vn,Vn,u64V 0,u64V 0,u64V 0,u64V 0,Vi 0,Vi 0,Vi 0,Vi 0,Vf,Vn,Vn,Vi 0,Vf,Vi 0,Vi 0,Vi 0,Vi 0,Vn,.string ⟨[].toArray⟩,Vi (-1),Vi (-1)],[Vi 11,Vi 0,Vi 0,Vi 0,Vi 0,Vi 2,Vi 5,Vn,Vf,Vi 0,Vn,Vn,u64V 0,u64V 0,u64V 0,u64V 0,Vi 0,Vi 0,Vi 0,Vi 0,Vf,Vn,Vn,Vi 0,Vf,Vi 0,Vi 0,Vi 0,Vi 0,Vn,.string ⟨[].toArray⟩,Vi 1,Vi (-1)],[Vi 3,Vi 1,Vi 2,Vi 3,Vi 0,Vi 0,Vi 0,.slice A77 1 c77,Vf,Vi 0,Vn,Vn,u64V 0,u64V 0,u64V 0,u64V 0,Vi 0,Vi 0,Vi 0,Vi 0,Vf,Vn,Vn,Vi 0,Vf,Vi 0,Vi 0,Vi 0,Vi 0,Vn,.string ⟨[].toArray⟩,Vi (-1),Vi 2],[Vi 12,Vi 0,Vi 0,Vi 0,Vi 0,Vi 0,Vi 0,Vn,Vf,Vi 0,Vn,Vn,u64V 0,u64V 0,u64V 0,u64V 0,Vi 0,Vi 0,Vi 0,Vi 0,Vf,Vn,Vn,Vi 0,Vf,Vi 0,Vi 0,Vi 0,Vi 0,Vn,.string ⟨[].toArray⟩,Vi (-1),Vi (-1)],[Vi 1,Vi 3,Vi 1,Vi 0,Vi 0,Vi 0,Vi 0,Vn,Vf,Vi 0,Vn,Vn,u64V 0,u64V 0,u64V 0,u64V 0,Vi 0,Vi 0,Vi 0,Vi 0,Vf,Vn,Vn,Vi 0,Vf,Vi 0,Vi 0,Vi 0,Vi 0,Vn,.string ⟨[].toArray⟩,Vi (-1),Vi (-1)]].flatten,.row 45 1 (Vs bz 3 cz) 3 [xb,xe,xd],.row 3 1 xb 2 ([0,1].map natV),.row 3 1 xe 2 ([2,4].map natV),.row 3 1 xd 1 ([3].map natV)]:=by
 refine FnOk.of_T [(0,_),(1,_),(2,_)] func92 rfl ntmps92 sM rfl fun w0 hs=>?_
 have hM0:=hs.feetLt
 refine Wt 2 [] hs rfl<|O_s (Sb hs rfl fun b4 _ hs=>Wp 4 [0] hs rfl<|O_s (Sc (rbfr_ok (z1:=1) (z1':=2) dC dC rfl) hs.f1 rfl fun v1 G' H' _ hR hG15 hs=>?_))
 obtain ⟨rfl,rfl⟩:=hR
 replace hs:=hs.n rfl
 refine Wp 5 [0] hs rfl<|O_s (Sc (rbfr_ok (z1:=2) (z1':=3) dC dC rfl) hs rfl fun v2 G' H' _ hR hG17 hs=>?_)
 obtain ⟨rfl,rfl⟩:=hR
 replace hs:=hs.n rfl
 refine Wp 5 [0] hs rfl<|O_s (Sc (rbfr_ok (z1:=3) (z1':=4) dC dC rfl) hs rfl fun v3 G' H' _ hR hG19 hs=>?_)
 obtain ⟨rfl,rfl⟩:=hR
 replace hs:=hs.n rfl
 refine Wp 7 [0] hs rfl<|Zy hs (Y_build zeroValue114 rfl PL114 rfl (cs:=[_,_,_,_,_,_,_,_,_,_,_,_,_,_,_,_,_,_,_,_,_,_,_,_,_,_,_,_,_,_,_,_,_]) rfl<|O_s (Sc (rbad_ok (k:=1) (j:=0) (n:=0) (m:=0) (l:=[]) (css:=[]) (xs:=[x0]) dC rfl rfl dC dC rfl) hs.f4.f4.f4.f3 rfl fun v4 G' H' _ hR hG24 hs=>?_))
 obtain ⟨vs1,xa,rfl⟩:=hR
 replace hs:=hs.n rfl
 refine Wp 2 [0] hs rfl<|T_drawS [0,1,2,3,4,5,6,7,8,9,10,11,12,13,14,15,16,17] hs kR ?_
 replace hs:=hs.drew
 refine Xr [0,1] [2,4] hs rfl<|Xt 2 hs rfl (Y_conv underlying5 underlying3 (c:=1) rfl dC<|Xt 3 hs rfl (Y_rem (c:=1) rfl rfl dC dC dC<|Xt 4 hs rfl (Y_add (c:=(2)) rfl rfl dC dC<|Xr [5,6] [3,4] hs rfl<|Xt 7 hs rfl (Y_conv underlying5 underlying3 (c:=1) rfl dC<|Xt 8 hs rfl (Y_rem (c:=1) rfl rfl dC dC dC<|Xt 9 hs rfl (Y_add (c:=(5)) rfl rfl dC dC<|Xr [10] [] hs rfl<|Xt 11 hs rfl (Y_nil rfl<|Xr [12,13,14,15] [0,1,0] hs rfl<|Xt 16 hs rfl (Y_build zeroValue114 rfl PL114 rfl (cs:=[_,_,_,_,_,_,_,_,_,_,_,_,_,_,_,_,_,_,_,_,_,_,_,_,_,_,_,_,_,_,_,_,_]) rfl ?_))))))))
 have hle:=hs.le
 refine Xo 17 rfl (Sa hs zeroValue114 rfl fun b9 _ hs=>A_moreS hs hle (Ghost.le.refl _) (List.sublist_cons_self _ _)<|Xn 18 rfl (Sg hs rfl (rfl) fun _ hs=>Xe (Zk [0,6,7,8,9] rfl<|Wu 4 [0] hs rfl<|O_s (Sc (rbad_ok (k:=1) (j:=0) (n:=1) (m:=1) (l:=[0]) (css:=[[Vi 1,Vi 0,Vi 1,Vi 0,Vi 0,Vi 0,Vi 0,Vn,Vf,Vi 0,Vn,Vn,u64V 0,u64V 0,u64V 0,u64V 0,Vi 0,Vi 0,Vi 0,Vi 0,Vf,Vn,Vn,Vi 0,Vf,Vi 0,Vi 0,Vi 0,Vi 0,Vn,.string ⟨[].toArray⟩,Vi (-1),Vi (-1)]]) (xs:=[xa]) dC rfl rfl dC dC rfl) hs.f4.f4.f4.f4 rfl fun v5 G' H' _ hR hG44 hs=>?_))))
 obtain ⟨vs2,xb,rfl⟩:=hR
 replace hs:=hs.n rfl
 refine Wp 5 [0] hs rfl<|Zy hs (Y_nil rfl<|Wp 3 [0,1,0] hs rfl<|O_s (Se hs zeroValue3 rfl fun v6 _ hs shl=>?_))
 obtain ⟨bl51,rfl⟩:=shl
 refine O_s (S_litF hs hM0 underlying36 sizeOf45 zeroValue45 rfl rfl dC dC rfl (cs:=[_]) rfl rfl fun v7 _ _ hG52 hl52 hs =>O_s (S_append hs.f3 underlying36 TI45 rfl dC rfl rfl (hl52) (one1 rfl) oM oM fun v8 _ hs =>Zy hs (Y_nil rfl<|Wp 2 [0,1] hs rfl<|O_n (Sd hs.f2 rfl (hs.f2.rowOne 1 rfl) fun _ hs=>Wp 1 [0] hs rfl ?_))))
 obtain ⟨bw,cw,rfl,_⟩:=hs.rowForm 1 rfl dC
 refine Wu 3 [] hs rfl<|Zy hs (Y_nil rfl<|Wp 9 [2,0,6,0,6,7,8,9,10,31,5] hs rfl<|Zy hs (Y_nil rfl<|Wp 1 [2] hs rfl<|O_n (Sd hs rfl rfl fun _ hs=>Wp 3 [0] hs rfl<|Zy hs (Y_build zeroValue114 rfl PL114 rfl (cs:=[_,_,_,_,_,_,_,_,_,_,_,_,_,_,_,_,_,_,_,_,_,_,_,_,_,_,_,_,_,_,_,_,_]) rfl<|O_s (Sa hs zeroValue114 rfl fun b11 _ hs=>O_n (Sg hs rfl (rfl) fun _ hs=>Wp 4 [0] hs rfl<|Zy hs (Y_nil rfl<|Wp 3 [0,0,1] hs rfl<|Zy hs (Y_lenOwn 4 rfl underlying68 rfl hs<|Wp 8 [0] hs rfl<|O_s (S_litF hs hM0 underlying99 sizeOf5 zeroValue5 rfl rfl dC dC rfl (cs:=[_]) rfl rfl fun v9 _ _ hG77 hl77 hs=>?_)))))))))
 obtain ⟨A77,c77,rfl,_⟩:=id hl77
 refine Zy hs (Y_build zeroValue114 rfl PL114 rfl (cs:=[_,_,_,_,_,_,_,_,_,_,_,_,_,_,_,_,_,_,_,_,_,_,_,_,_,_,_,_,_,_,_,_,_]) rfl<|O_s (Sc (rbad_ok (k:=2) (j:=1) (n:=2) (m:=0) (l:=[]) (css:=[[Vi 1,Vi 0,Vi 1,Vi 0,Vi 0,Vi 0,Vi 0,Vn,Vf,Vi 0,Vn,Vn,u64V 0,u64V 0,u64V 0,u64V 0,Vi 0,Vi 0,Vi 0,Vi 0,Vf,Vn,Vn,Vi 0,Vf,Vi 0,Vi 0,Vi 0,Vi 0,Vn,.string ⟨[].toArray⟩,Vi (-1),Vi (-1)],[Vi 11,Vi 0,Vi 0,Vi 0,Vi 0,Vi 2,Vi 5,Vn,Vf,Vi 0,Vn,Vn,u64V 0,u64V 0,u64V 0,u64V 0,Vi 0,Vi 0,Vi 0,Vi 0,Vf,Vn,Vn,Vi 0,Vf,Vi 0,Vi 0,Vi 0,Vi 0,Vn,.string ⟨[].toArray⟩,Vi 1,Vi (-1)]]) (xs:=[xb,Vs bl51 0 0]) dC rfl rfl dC dC rfl) hs.f3.f3.f4.f4 rfl fun v10 G' H' _ hR hG79 hs=>?_))
 obtain ⟨vs3,xc,rfl⟩:=hR
 replace hs:=hs.n rfl
 replace hl77:=hl77.mono hG79
 refine Wp 5 [7,0,6,7,8,10,11,12,4] hs rfl<|O_s (Sc (rbsu_ok (k:=2) (j:=1) (n:=3) (css:=[[Vi 1,Vi 0,Vi 1,Vi 0,Vi 0,Vi 0,Vi 0,Vn,Vf,Vi 0,Vn,Vn,u64V 0,u64V 0,u64V 0,u64V 0,Vi 0,Vi 0,Vi 0,Vi 0,Vf,Vn,Vn,Vi 0,Vf,Vi 0,Vi 0,Vi 0,Vi 0,Vn,.string ⟨[].toArray⟩,Vi (-1),Vi (-1)],[Vi 11,Vi 0,Vi 0,Vi 0,Vi 0,Vi 2,Vi 5,Vn,Vf,Vi 0,Vn,Vn,u64V 0,u64V 0,u64V 0,u64V 0,Vi 0,Vi 0,Vi 0,Vi 0,Vf,Vn,Vn,Vi 0,Vf,Vi 0,Vi 0,Vi 0,Vi 0,Vn,.string ⟨[].toArray⟩,Vi 1,Vi (-1)],[Vi 3,Vi 1,Vi 2,Vi 3,Vi 0,Vi 0,Vi 0,.slice A77 1 c77,Vf,Vi 0,Vn,Vn,u64V 0,u64V 0,u64V 0,u64V 0,Vi 0,Vi 0,Vi 0,Vi 0,Vf,Vn,Vn,Vi 0,Vf,Vi 0,Vi 0,Vi 0,Vi 0,Vn,.string ⟨[].toArray⟩,Vi (-1),Vi (-1)]]) (xs:=[xb,xc]) dC rfl dC rfl) hs.f2.f2.f2 rfl fun v11 G' H' _ hR hG82 hs=>?_)
 obtain ⟨rfl,vs4,bz,cz,xd,rfl⟩:=hR
 replace hs:=hs.n rfl
 replace hl77:=hl77.mono hG82
 refine Wp 2 [0] hs rfl ?_
 obtain ⟨bs,cs,rfl,_⟩:=hs.rowForm 1 rfl dC
 refine Wu 3 [] hs rfl<|Zy hs (Y_nil rfl<|Wp 5 [0,0,0] hs rfl<|Zy hs (Y_idxRowK (2) underlying68 sizeOf114 rfl rfl rfl oM<|Zy hs (Yf (2 * 33+32) rfl<|O_n (S_stRowC hs.f1 sizeOf3 rfl rfl rfl oM fun _ hs=>?_))))
 replace hs:St _ _ (.row _ _ _ _ (List.set (List.flatten [[Vi 1,Vi 0,Vi 1,Vi 0,Vi 0,Vi 0,Vi 0,Vn,Vf,Vi 0,Vn,Vn,u64V 0,u64V 0,u64V 0,u64V 0,Vi 0,Vi 0,Vi 0,Vi 0,Vf,Vn,Vn,Vi 0,Vf,Vi 0,Vi 0,Vi 0,Vi 0,Vn,.string ⟨[].toArray⟩,Vi (-1),Vi (-1)],[Vi 11,Vi 0,Vi 0,Vi 0,Vi 0,Vi 2,Vi 5,Vn,Vf,Vi 0,Vn,Vn,u64V 0,u64V 0,u64V 0,u64V 0,Vi 0,Vi 0,Vi 0,Vi 0,Vf,Vn,Vn,Vi 0,Vf,Vi 0,Vi 0,Vi 0,Vi 0,Vn,.string ⟨[].toArray⟩,Vi 1,Vi (-1)],[Vi 3,Vi 1,Vi 2,Vi 3,Vi 0,Vi 0,Vi 0,.slice A77 1 c77,Vf,Vi 0,Vn,Vn,u64V 0,u64V 0,u64V 0,u64V 0,Vi 0,Vi 0,Vi 0,Vi 0,Vf,Vn,Vn,Vi 0,Vf,Vi 0,Vi 0,Vi 0,Vi 0,Vn,.string ⟨[].toArray⟩,Vi (-1),Vi (-1)],[Vi 12,Vi 0,Vi 0,Vi 0,Vi 0,Vi 0,Vi 0,Vn,Vf,Vi 0,Vn,Vn,u64V 0,u64V 0,u64V 0,u64V 0,Vi 0,Vi 0,Vi 0,Vi 0,Vf,Vn,Vn,Vi 0,Vf,Vi 0,Vi 0,Vi 0,Vi 0,Vn,.string ⟨[].toArray⟩,Vi (-1),Vi (-1)]]) (2*33+32) _)::_) _:=hs
 rw [flatK_set (k:=33) (css:=[[Vi 1,Vi 0,Vi 1,Vi 0,Vi 0,Vi 0,Vi 0,Vn,Vf,Vi 0,Vn,Vn,u64V 0,u64V 0,u64V 0,u64V 0,Vi 0,Vi 0,Vi 0,Vi 0,Vf,Vn,Vn,Vi 0,Vf,Vi 0,Vi 0,Vi 0,Vi 0,Vn,.string ⟨[].toArray⟩,Vi (-1),Vi (-1)],[Vi 11,Vi 0,Vi 0,Vi 0,Vi 0,Vi 2,Vi 5,Vn,Vf,Vi 0,Vn,Vn,u64V 0,u64V 0,u64V 0,u64V 0,Vi 0,Vi 0,Vi 0,Vi 0,Vf,Vn,Vn,Vi 0,Vf,Vi 0,Vi 0,Vi 0,Vi 0,Vn,.string ⟨[].toArray⟩,Vi 1,Vi (-1)],[Vi 3,Vi 1,Vi 2,Vi 3,Vi 0,Vi 0,Vi 0,.slice A77 1 c77,Vf,Vi 0,Vn,Vn,u64V 0,u64V 0,u64V 0,u64V 0,Vi 0,Vi 0,Vi 0,Vi 0,Vf,Vn,Vn,Vi 0,Vf,Vi 0,Vi 0,Vi 0,Vi 0,Vn,.string ⟨[].toArray⟩,Vi (-1),Vi (-1)],[Vi 12,Vi 0,Vi 0,Vi 0,Vi 0,Vi 0,Vi 0,Vn,Vf,Vi 0,Vn,Vn,u64V 0,u64V 0,u64V 0,u64V 0,Vi 0,Vi 0,Vi 0,Vi 0,Vf,Vn,Vn,Vi 0,Vf,Vi 0,Vi 0,Vi 0,Vi 0,Vn,.string ⟨[].toArray⟩,Vi (-1),Vi (-1)]]) (i:=2) (j:=32) (c:=[Vi 3,Vi 1,Vi 2,Vi 3,Vi 0,Vi 0,Vi 0,.slice A77 1 c77,Vf,Vi 0,Vn,Vn,u64V 0,u64V 0,u64V 0,u64V 0,Vi 0,Vi 0,Vi 0,Vi 0,Vf,Vn,Vn,Vi 0,Vf,Vi 0,Vi 0,Vi 0,Vi 0,Vn,.string ⟨[].toArray⟩,Vi (-1),Vi (-1)]) (allLen rfl) rfl dC] at hs
 refine Wp 6 [0] hs rfl<|Zy hs (Y_build zeroValue114 rfl PL114 rfl (cs:=[_,_,_,_,_,_,_,_,_,_,_,_,_,_,_,_,_,_,_,_,_,_,_,_,_,_,_,_,_,_,_,_,_]) rfl<|O_s (Sc (rbad_ok (k:=3) (j:=1) (n:=4) (m:=1) (l:=[2]) (css:=[[Vi 1,Vi 0,Vi 1,Vi 0,Vi 0,Vi 0,Vi 0,Vn,Vf,Vi 0,Vn,Vn,u64V 0,u64V 0,u64V 0,u64V 0,Vi 0,Vi 0,Vi 0,Vi 0,Vf,Vn,Vn,Vi 0,Vf,Vi 0,Vi 0,Vi 0,Vi 0,Vn,.string ⟨[].toArray⟩,Vi (-1),Vi (-1)],[Vi 11,Vi 0,Vi 0,Vi 0,Vi 0,Vi 2,Vi 5,Vn,Vf,Vi 0,Vn,Vn,u64V 0,u64V 0,u64V 0,u64V 0,Vi 0,Vi 0,Vi 0,Vi 0,Vf,Vn,Vn,Vi 0,Vf,Vi 0,Vi 0,Vi 0,Vi 0,Vn,.string ⟨[].toArray⟩,Vi 1,Vi (-1)],[Vi 3,Vi 1,Vi 2,Vi 3,Vi 0,Vi 0,Vi 0,.slice A77 1 c77,Vf,Vi 0,Vn,Vn,u64V 0,u64V 0,u64V 0,u64V 0,Vi 0,Vi 0,Vi 0,Vi 0,Vf,Vn,Vn,Vi 0,Vf,Vi 0,Vi 0,Vi 0,Vi 0,Vn,.string ⟨[].toArray⟩,Vi (-1),Vi 2],[Vi 12,Vi 0,Vi 0,Vi 0,Vi 0,Vi 0,Vi 0,Vn,Vf,Vi 0,Vn,Vn,u64V 0,u64V 0,u64V 0,u64V 0,Vi 0,Vi 0,Vi 0,Vi 0,Vf,Vn,Vn,Vi 0,Vf,Vi 0,Vi 0,Vi 0,Vi 0,Vn,.string ⟨[].toArray⟩,Vi (-1),Vi (-1)]]) (xs:=[xb,xc,xd]) dC rfl rfl dC dC rfl) hs.f4.f3.f2.f3 rfl fun v12 G' H' _ hR hG96 hs=>?_))
 obtain ⟨vs5,xe,rfl⟩:=hR
 replace hs:=hs.n rfl
 replace hl77:=hl77.mono hG96
 refine Wp 5 [3,0,7,10] hs rfl<|Zy hs (Y_nil rfl<|Wp 1 [2] hs rfl<|O_n (Sd hs rfl rfl fun _ hs=>Wp 4 [0] hs rfl<|Zy hs (Y_nil rfl<|Wp 1 [3] hs rfl<|O_n (Sd hs rfl rfl fun _ hs=>?_))))
 have hs:=hs.f4.f4.f6.f5.f5.f5
 refine O_nil (Rt_finN (vs:=[]) results92 rfl trivial ?_)
 try dsimp only [tup]
 exact ⟨_,_,hs.weak hs.le (Ghost.le.refl _) (List.sublist_append_left [_,_,_,_,_,_] _),vs5,bz,cz,xb,xe,xd,A77,c77,hl77,rfl⟩
end Go.Proofs.YtkeplgdofphnkaaGreatDoor
