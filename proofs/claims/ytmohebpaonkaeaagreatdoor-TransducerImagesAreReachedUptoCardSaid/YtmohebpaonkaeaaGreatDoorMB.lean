/- Part 2 of the walk through the functions that the laws of package fleet call: each function's contract, without conditions but those that its statement names. -/
import Derived.Test.YtmohebpaonkaeaaGreatDoorMA
set_option maxHeartbeats 4000000
set_option maxRecDepth 10000
set_option linter.unusedVariables false
set_option linter.unusedSimpArgs false
set_option linter.unusedSectionVars false
namespace Go.Ex
open Go Go.RowKit
def So (H H':List Res):Prop:=∀ k,Bj H k→Bj H' k
theorem So.refl (H:List Res):So H H:=fun _ h=>h
theorem So.trans {A B C:List Res} (h:So A B) (h2:So B C):So A C:=fun k hk=>h2 k (h k hk)
theorem So.cons {r r':Res} {H H':List Res} (h:∀ k,r.foot k→r'.foot k) (h2:So H H'):So (r::H) (r'::H'):=by
 rintro k ⟨s,hs,hk⟩
 rcases AaV.1 hs with rfl | hs
 ·exact ⟨r',AaK,h k hk⟩
 ·obtain ⟨s',hs',hk'⟩:=h2 k ⟨s,hs,hk⟩
  exact ⟨s',AaG _ hs',hk'⟩
theorem So.tl {r:Res} {H H':List Res} (h:So H H'):So H (r::H'):=fun k hk=>by
 obtain ⟨s,hs,hk'⟩:=h k hk
 exact ⟨s,AaG _ hs,hk'⟩
def Cu (G G':Ah):Prop:=Ah.le G G'
theorem Cu.refl (G:Ah):Cu G G:=gLr G
theorem Cu.mono {G0 G G':Ah} (h:G.le G') (hl:Cu G0 G):Cu G0 G':=Ah.le.trans hl h
theorem So.nil (H:List Res):So [] H:=fun _ ⟨_,h,_⟩=>by cases h
theorem So.cm {r r':Res} {H H':List Res} (i:Nat) (hi:H'[i]?=some r') (h:∀ k,r.foot k→r'.foot k) (h2:So H H'):So (r::H) H':=by
 rintro k ⟨s,hs,hk⟩
 rcases AaV.1 hs with rfl | hs
 ·exact ⟨r',AaF hi,h k hk⟩
 ·exact h2 k ⟨s,hs,hk⟩
theorem St.name {c:Ctx} {G:Ah} {H:List Res} {w:World} (_:St c G H w):∃ Gp,Gp=G:=⟨_,rfl⟩
def Vis {α:Type} (P:Program) (f:FuncId) (caps:List Value) (Rx:Ah→List Value→α→Prop) (xs:List α) (G:Ah):Prop :=
 ∀ (lp:Nat) (H0:List Res) (G0:Ah) (J:Nat→Ah→List Res→Prop) (K:Ah→List Res→Prop),G.le G0→(∀ n G1 G2 H,Ah.le G1 G2→J n G1 H→J n G2 H)→(∀ G1 G2 H,Ah.le G1 G2→K G1 H→K G2 H) →
  (∀ n x v G' H',xs[n]?=some x→Rx G' v x→G0.le G'→J n G' H'→Fl P lp v G' H' fun b G'' H''=>(b=.bool true∧J (n+1) G'' H''∧So H' H'')∨(b=.bool false∧K G'' H''))→J 0 G0 H0 →
  Ba P f (.func (.yield lp) #[] #[]::caps) G0 H0 fun _ G' H'=>J xs.length G' H'∨K G' H'
theorem Vis.mono {α:Type} {P:Program} {f:FuncId} {caps:List Value} {Rx:Ah→List Value→α→Prop} {xs:List α} {G G1:Ah} (h:G.le G1) (hv:Vis P f caps Rx xs G):Vis P f caps Rx xs G1 :=
 fun lp H0 G0 J K hle=>hv lp H0 G0 J K (Ah.le.trans h hle)
theorem T_vis {α:Type} {P:Program} {c:Ctx} {G:Ah} {H:List Res} {w:World} {N gf:Nat} {E:Env} {g:Operand} {ps:Array Tmp} {assign body:Code} {Q:Exit→Env→World→Prop} {lb:List Value} {fn:Func} {H1:List Res} {Rx:Ah→List Value→α→Prop} {xs:List α}
  (I : Nat → Ah → List Res → Prop) (R : Code → Ah → List Res → Prop) (hV : Vis P gf lb Rx xs G) (hs : St c G (H1 ++ H) w) (hg : ev E g = some (.func (.func gf) #[] lb.toArray)) (hfn : P.funcs[gf]? = some fn) (hb : fn.body.isSome = true) (hnm : (fn.name == "runtime.NumGoroutine") = false)
  (hI0:I 0 G H1) (hIm:∀ n G1 G2 H,Ah.le G1 G2→I n G1 H→I n G2 H) (hRm:∀ cd G1 G2 H,Ah.le G1 G2→R cd G1 H→R cd G2 H)
  (round:∀ (l D:Nat) (rec:Loop) n x v G' H2,rec.params=ps→rec.assign=assign→rec.body=body→rec.state=.ready→rec.pending=none→Ag N ⟨[],E.l⟩ { tmps:=rec.tmps,defers:=[] }→xs[n]?=some x→Rx G' v x→G.le G'→I n G' H2 →
   Fl P l v G' (.obj l (.loop rec)::.obj D (.deferred (some []))::H2) fun b G'' H''=>(b=.bool true∧∃ H3,H''=.obj l (.loop rec)::.obj D (.deferred (some []))::H3∧I (n+1) G'' H3∧So H2 H3) ∨
    (b=.bool false∧∃ H3 cd,H''=.obj l (.loop { rec with state:=.done,pending:=some cd })::.obj D (.deferred (some []))::H3∧R cd G'' H3))
  (done:∀ (l D:Nat) o G' H2 w',I xs.length G' H2→So H1 H2→G.le G'→St c G' (.obj D (.deferred (some []))::.obj l o::(H2++H)) w'→Q .normal ⟨{ target:=.collected D,args:=#[] }::E.d,E.l⟩ w')
  (early:∀ (l D:Nat) o cd G' H2 w',R cd G' H2→G.le G'→St c G' (.obj D (.deferred (some []))::.obj l o::(H2++H)) w'→T ⟨P,N,none⟩ cd Q ⟨{ target:=.collected D,args:=#[] }::E.d,E.l⟩ w') :
  T ⟨P,N,none⟩ (.rangeFunc g ps assign body) Q E w:=by
 refine Rz (R:=fun j G' H2=>match j with | none=>I xs.length G' H2∧So H1 H2 | some cd=>R cd G' H2) hs hg hfn hb hnm ?_ ?_
 ·intro l D rec h1 h2 h3 h4 h5 hA
  refine Ba.mono (hV l _ G (fun n G' H'=>∃ H2,H'=.obj l (.loop rec)::.obj D (.deferred (some []))::H2∧I n G' H2∧So H1 H2)
   (fun G' H'=>∃ H2 cd,H'=.obj l (.loop { rec with state:=.done,pending:=some cd })::.obj D (.deferred (some []))::H2∧R cd G' H2)
   (gLr _) ?_ ?_ ?_ ⟨_,rfl,hI0,So.refl _⟩) ?_
  ·rintro n G1 G2 H' hle ⟨H2,rfl,hI,hC⟩;exact ⟨H2,rfl,hIm _ _ _ _ hle hI,hC⟩
  ·rintro G1 G2 H' hle ⟨H2,cd,rfl,hR⟩;exact ⟨H2,cd,rfl,hRm _ _ _ _ hle hR⟩
  ·rintro n x v G' H' hx hv hle ⟨H2,rfl,hI,hC0⟩ w hw
   refine YieldAt.mono' (round l D rec n x v G' H2 h1 h2 h3 h4 h5 hA hx hv hle hI w hw) ?_
   rintro e w' ⟨b,G'',H'',he,hs',(⟨hb,H3,rfl,hI3,hC⟩ | ⟨hb,H3,cd,rfl,hR⟩)⟩
   ·exact ⟨b,G'',_,he,hs',.inl ⟨hb,⟨H3,rfl,hI3,hC0.trans hC⟩,(hC.cons fun _ h=>h).cons fun _ h=>h⟩⟩
   ·exact ⟨b,G'',_,he,hs',.inr ⟨hb,H3,cd,rfl,hR⟩⟩
  ·rintro r G' H' _ (⟨H2,rfl,hI⟩ | ⟨H2,cd,rfl,hR⟩)
   ·refine ⟨H2,none,.ready,?_,by simp,hI⟩
    cases rec with
    | mk s p a b e i j k=>dsimp only at h4 h5 ⊢;subst h4;subst h5;rfl
   ·exact ⟨H2,some cd,.done,rfl,by simp,hR⟩
 ·intro l D o j G' H2 w' hR hle hs'
  cases j with
  | none=>exact done l D o G' H2 w' hR.1 hR.2 hle hs'
  | some cd=>exact early l D o cd G' H2 w' hR hle hs'
theorem noMt {w0:World} {G0 G:Ah} {r:Res} {H0 H:List Res} {w:World} (hs:St ⟨w0,G0,Bj H0⟩ G (r::H) w) (h:∀ k,Bj H0 k→Bj H k):∀ k,r.foot k→¬ (⟨w0,G0,Bj H0⟩:Ctx).M k:=by
 intro k hk hM
 obtain ⟨s,hs',hk'⟩:=h k hM
 exact (AbO.1 hs.apart).1 s hs' k hk hk'
theorem wS {x:Cx} {c:Ctx} {G:Ah} {H:List Res} {w:World} {l:Nat} {E:Env} {g:Operand} {ao:List Operand} {ats:Array TypeId} {args:List Value} {H1:List Res} {R:Value→Ah→List Res→Prop} {d:Option Tmp} {ty:TypeId} {pos:String} {aft:Array Edge} {gd:Option (Nat×Bool)}
  {Q:Exit→Env→World→Prop} {K:Value→World→Prop} (hs:St c G (H1++H) w) (hg:ev E g=some (.func (.yield l) #[] #[])) (ha:ao.map (ev E)=args.map some) (h:Fl x.P l args G H1 R)
  (kk:∀ v G' H' w',R v G' H'→G.le G'→St c G' (H'++H) w'→K v w'):S x ⟨d,.call { callee:=.value g,args:=ao.toArray,argTypes:=ats },ty,pos,aft,gd⟩ Q K E w:=by
 intro a hA next hn
 have hargs:=evals hA ao args ha
 obtain ⟨fn,tmps,assign,body,hy,hR⟩:=h.call hs
 refine ⟨fun _ _=>trivial,?_⟩
 rw [Oper.semAt_eq _ _ _ (fun c hc=>by cases hc)]
 have hr:(execOp a.eval ⟨d,.call { callee:=.value g,args:=ao.toArray,argTypes:=ats },ty,pos,aft,gd⟩).run x.P w=.ok (.round l fn tmps assign body) w:=by
  simp [execOp,resolve,Deferred.ofValue,hA.ev hg,invoke,hargs,hy]
 rw [hr]
 refine ⟨fun h=>Wn,?_⟩
 have hR2:RoundIn (RF x.r) 0 x.P l fn tmps assign body w _:=hR
 refine RoundIn.mono hR2 ?_
 intro e w' he
 obtain ⟨v,G',H',rfl,hle,hs',hR⟩:=he
 exact hn _ _ (kk v G' H' w' hR hle hs')
def wT (Ds:List Nat):List Deferred:=Ds.map fun D=>{ target:=.collected D,args:=#[] }
def Ju (Ds:List Nat):List Res:=Ds.map fun D=>.obj D (.deferred (some []))
theorem St.marks {c:Ctx} {G:Ah} {H:List Res}:∀ (Ds:List Nat) {w:World},St c G (Ju Ds++H) w→∃ w',pM (wT Ds) w w'∧St c G H w'
 | [],w,h=>⟨w,rfl,h⟩
 | D::Ds,w,h=>by
  have hs:St c G (.obj D (.deferred (some []))::(Ju Ds++H)) w:=h
  have hD:w.heap[D]?=some (.deferred (some [])):=hs.hold (.obj D (.deferred (some []))) Di
  have h2:St c G (.obj D (.deferred none)::(Ju Ds++H)) (w.putObj D (.deferred none)) :=
   hs.write rfl rfl rfl Di (fun k _ hk=>World.putObj_heap_other hk) (World.putObj_heap_same (Dc hD)) (fun k hk=>.inl hk)
  obtain ⟨w',h3,h4⟩:=St.marks Ds h2.drop
  exact ⟨w',⟨D,rfl,hD,h3⟩,h4⟩
theorem Jk {c:Ctx} {G:Ah} {H:List Res} {P:Program} {N:Nat} {Ds:List Nat} {E:Env} {w:World} {fn:Func} {rs:List ResultVar} {vs:List Value} {R:Value→World→Prop} (hs:St c G (Ju Ds++H) w) (hr:fn.results=rs.toArray)
  (hd:E.d=wT Ds) (h:∀ w',St c G H w'→Cw (Om P E w') rs vs∧R (tup vs) w'):RtM P N fn R .ret E w:=by
 obtain ⟨w',h1,h2⟩:=St.marks Ds hs
 obtain ⟨h3,h4⟩:=h _ h2
 exact ⟨w',by rw [hd];exact h1,_,Ln hr h3,h4⟩
theorem St.swap {c:Ctx} {G:Ah} {A B:List Res} {w:World} (h:St c G (A++B) w):St c G (B++A) w:=h.perm Abd
structure Ih {α:Type} (P:Program) (kt:TypeId) (enc:α→Value):Prop where
 inj:∀ a b,enc a=enc b→a=b
 bits:∀ a,Instr.sameBits 10000 (enc a) (enc a)=true
 check:∀ em a w,(Instr.checkKey em 10000 kt (enc a)).run P w=.ok () w
 find:∀ (a:α) (es:List MapEntry),(∀ e∈es,∃ b,e.key=enc b) →
  ((∀ w,(Instr.findKey kt (enc a) es).run P w=.ok none w)∧∀ e∈es,e.key≠enc a)∨∃ (j:Nat) (e:MapEntry),es[j]?=some e∧(∀ w,(Instr.findKey kt (enc a) es).run P w=.ok (some (j,e.val)) w)∧e.key=enc a
theorem Ih.asked {α:Type} [DecidableEq α] {P:Program} {kt:TypeId} {td:TypeDesc} {enc:α→Value} (hu:P.underlying kt=some td) (hinj:∀ a b,enc a=enc b→a=b) (hb:∀ a,Instr.sameBits 10000 (enc a) (enc a)=true) (hc:∀ em a w,(Instr.checkKey em 10000 kt (enc a)).run P w=.ok () w)
  (hn:∀ a b,Instr.sameNow td (enc a) (enc b)=none) (heq:∀ a b w,(Op.equal kt (enc a) (enc b)).run P w=.ok (decide (a=b)) w):Ih P kt enc where
 inj:=hinj
 bits:=hb
 check:=hc
 find a es hes:=by
  have ask:∀ (es:List MapEntry) (i:Nat),(∀ e∈es,∃ b,e.key=enc b) →
    ((∀ w,(Instr.findAsking kt (enc a) es i).run P w=.ok none w)∧∀ e∈es,e.key≠enc a)∨∃ (j:Nat) (e:MapEntry),es[j]?=some e∧(∀ w,(Instr.findAsking kt (enc a) es i).run P w=.ok (some (i+j,e.val)) w)∧e.key=enc a:=by
   intro es
   induction es with
   | nil=>intro i _;exact .inl ⟨fun w=>by simp [Instr.findAsking],by simp⟩
   | cons e es ih =>
    intro i hk
    obtain ⟨b,hb⟩:=hk e Di
    by_cases hab:a=b
    ·right
     refine ⟨0,e,rfl,fun w=>?_,by rw [hb,hab]⟩
     rw [Instr.findAsking,Sem.run_bind,hb,heq,decide_eq_true hab]
     simp
    ·have hne:e.key≠enc a:=fun he=>hab (hinj _ _ (he.symm.trans hb))
     rcases ih (i+1) (fun x hx=>hk x pB) with ⟨h1,h2⟩ | ⟨j,e',h1,h2,h3⟩
     ·left
      refine ⟨fun w=>?_,fun x hx=>?_⟩
      ·rw [Instr.findAsking,Sem.run_bind,hb,heq,decide_eq_false hab];simp [h1]
      ·rcases AaV.1 hx with rfl | hx
       ·exact hne
       ·exact h2 x hx
     ·right
      refine ⟨j+1,e',h1,fun w=>?_,h3⟩
      rw [Instr.findAsking,Sem.run_bind,hb,heq,decide_eq_false hab]
      simp [h2,show i+1+j=i+(j+1) from by omega]
  cases es with
  | nil=>exact .inl ⟨fun w=>by simp [Instr.findKey,run_underlying hu,Instr.findNow],by simp⟩
  | cons e es =>
   obtain ⟨b,hb⟩:=hes e Di
   have h1:Instr.findNow td (enc a) (e::es) 0=none:=by rw [Instr.findNow,hb,hn]
   have hf:∀ w,(Instr.findKey kt (enc a) (e::es)).run P w=(Instr.findAsking kt (enc a) (e::es) 0).run P w:=fun w=>by
    simp only [Instr.findKey,Sem.run_bind,run_underlying hu,Result.andThen_ok,h1]
   simp only [hf]
   have:=ask (e::es) 0 hes
   simpa only [Abr] using this
def Ui {α:Type} [DecidableEq α] (ks:List α) (a:α):List α:=if a∈ks then ks else ks++[a]
theorem iZ {α:Type} [DecidableEq α] {ks:List α} {a x:α}:x∈Ui ks a↔x∈ks∨x=a:=by
 unfold Ui;split
 ·exact ⟨.inl,fun h=>h.elim id fun e=>e▸‹_›⟩
 ·simp
theorem addK_nodup {α:Type} [DecidableEq α] {ks:List α} {a:α} (h:ks.Nodup):(Ui ks a).Nodup:=by
 unfold Ui;split
 ·exact h
 ·rw [AbQ]
  exact ⟨h,by simp,fun x hx y hy e=>by rw [AaE.1 hy] at e;exact ‹¬ a∈ks› (e▸hx)⟩
section
variable {α:Type} [DecidableEq α] {enc:α→Value} {P:Program} {w:World} {t kt et:TypeId} {b:Nat} {ks:List α}
end
section
variable {x:Cx} {Q:Exit→Env→World→Prop} {E:Env} {d:Option Tmp} {ty:TypeId} {pos:String} {aft:Array Edge} {g:Option (Nat×Bool)} {c:Ctx} {G:Ah} {H:List Res}
end
def Jv {α:Type} (enc:α→Value):Nat→List (α×Value)→List MapEntry
 | _,[]=>[]
 | i,p::l=>Lh (enc p.1) p.2 i::Jv enc (i+1) l
def esV {α:Type} (enc:α→Value) (l:List (α×Value)):Array MapEntry:=(Jv enc 0 l).toArray
theorem dM {α:Type} (enc:α→Value) (p:α×Value):∀ (i:Nat) (l:List (α×Value)),Jv enc i (l++[p])=Jv enc i l++[Lh (enc p.1) p.2 (i+l.length)]
 | i,[]=>by simp [Jv]
 | i,x::l=>by rw [Abc,Jv,dM enc p (i+1) l,Jv,AaZ,show i+1+l.length=i+(l.length+1) by omega];rfl
theorem Kf {α:Type} {enc:α→Value}:∀ {i:Nat} {l:List (α×Value)} {j:Nat},(Jv enc i l)[j]?=(l[j]?).map fun p=>Lh (enc p.1) p.2 (i+j)
 | i,[],j=>by simp [Jv]
 | i,p::l,0=>by simp [Jv]
 | i,p::l,j+1=>by rw [Jv,List.getElem?_cons_succ,List.getElem?_cons_succ,Kf,show i+1+j=i+(j+1) by omega]
theorem aA {α:Type} {enc:α→Value} {i:Nat} {l:List (α×Value)} {e:MapEntry} (h:e∈Jv enc i l):∃ (j:Nat) (p:α×Value),l[j]?=some p∧e=Lh (enc p.1) p.2 (i+j):=by
 obtain ⟨j,hj⟩:=List.mem_iff_getElem?.1 h
 rw [Kf] at hj
 cases hk:l[j]? with
 | none=>rw [hk] at hj;cases hj
 | some k=>rw [hk] at hj;injection hj with hj;exact ⟨j,k,hk,hj.symm⟩
theorem dN {α:Type} {enc:α→Value}:∀ {i:Nat} {l:List (α×Value)},((Jv enc i l).map (·.born))=List.range' i l.length
 | i,[]=>rfl
 | i,p::l=>by rw [Jv,Aar,dN,AaZ,List.range'_succ];rfl
section
variable {α:Type} [DecidableEq α]
def Dz (a:α) (l:List (α×Value)):Nat:=Bc a (l.map (·.1))
def Ot (l:List (α×Value)) (a:α) (v:Value):List (α×Value):=if Dz a l<l.length then l.set (Dz a l) (a,v) else l++[(a,v)]
theorem aB {a:α} {l:List (α×Value)} (h:Dz a l<l.length):(l[Dz a l]'h).1=a:=by
 have h2:Bc a (l.map (·.1))<(l.map (·.1)).length:=by rw [AaC];exact h
 have:=Ec h2
 rw [Aaa] at this
 exact this
theorem Wz {a:α} {l:List (α×Value)} (hn:(l.map (·.1)).Nodup) {j:Nat} {p:α×Value} (hj:l[j]?=some p) (ha:p.1=a):Dz a l=j:=by
 obtain ⟨hl,rfl⟩:=AbN.1 hj
 have hm:(l.map (·.1))[j]'(by rw [AaC];exact hl)=a:=by rw [Aaa];exact ha
 have hp:Bc a (l.map (·.1))<(l.map (·.1)).length:=Cb.2 (by rw [← hm];exact AaD _)
 exact (List.getElem_inj hn).1 ((Ec hp).trans hm.symm)
theorem Ih.hasV {P:Program} {kt:TypeId} {enc:α→Value} (hk:Ih P kt enc) (a:α) (l:List (α×Value)) (hn:(l.map (·.1)).Nodup) :
  (¬ Dz a l<l.length∧∀ w,(Instr.findKey kt (enc a) (Jv enc 0 l)).run P w=.ok none w)∨∃ h:Dz a l<l.length,∀ w,(Instr.findKey kt (enc a) (Jv enc 0 l)).run P w=.ok (some (Dz a l,(l[Dz a l]'h).2)) w:=by
 have hes:∀ e∈Jv enc 0 l,∃ b,e.key=enc b:=fun e he=>by obtain ⟨_,p,_,rfl⟩:=aA he;exact ⟨p.1,rfl⟩
 rcases hk.find a (Jv enc 0 l) hes with ⟨hf,hno⟩ | ⟨j,e,hj,hf,he⟩
 ·refine .inl ⟨fun hp=>?_,hf⟩
  have:(Jv enc 0 l)[Dz a l]?=some (Lh (enc (l[Dz a l]'hp).1) (l[Dz a l]'hp).2 (0+Dz a l)):=by rw [Kf,AaA hp];rfl
  exact hno _ (AaF this) (by show enc (l[Dz a l]'hp).1=enc a;rw [aB hp])
 ·right
  rw [Kf] at hj
  cases hp:l[j]? with
  | none=>rw [hp] at hj;cases hj
  | some p =>
   rw [hp] at hj;injection hj with hj;subst hj
   have hpa:p.1=a:=hk.inj _ _ he
   have hpos:=Wz hn hp hpa
   obtain ⟨hl,hpe⟩:=AbN.1 hp
   refine ⟨by rw [hpos];exact hl,fun w=>?_⟩
   rw [hf w]
   simp only [hpos,hpe];rfl
end
section
variable {α:Type} [DecidableEq α] {enc:α→Value} {P:Program} {w:World} {t kt et:TypeId} {b:Nat} {l:List (α×Value)}
theorem wU {a:α} {v:Value} (hu:P.underlying t=some (.map kt et)) (hk:Ih P kt enc) (hn:(l.map (·.1)).Nodup) (hb:w.heap[b]?=some (.map (esV enc l) l.length)) :
  (Instr.mapUpdate t (.map (some b)) (enc a) v).run P w=.ok () (w.putObj b (.map (esV enc (Ot l a v)) (Ot l a v).length)):=by
 rcases hk.hasV a l hn with ⟨hp,hf⟩ | ⟨hp,hf⟩
 ·unfold Ot esV
  rw [if_neg hp,dM,AaB,Aac]
  simp [Instr.mapUpdate,run_underlying hu,MapKept.run_getObj_map hb,hk.check,esV,hf,MapKept.run_setObj_map _ hb,Result.andThen,World.putObj,Lh]
 ·have hj2:(esV enc l)[Dz a l]?=some (Lh (enc a) (l[Dz a l]'hp).2 (Dz a l)):=by
   unfold esV;rw [List.getElem?_toArray,Kf,AaA hp,Option.map_some,aB hp,Abr]
  have hmod:(esV enc l).modify (Dz a l) (fun e'=>{ key:=enc a,val:=v,born:=e'.born })=esV enc (l.set (Dz a l) (a,v)):=by
   apply Array.ext_getElem?
   intro i
   rw [Abx]
   unfold esV
   rw [List.getElem?_toArray,List.getElem?_toArray,Kf,Kf,List.getElem?_set]
   split
   ·rename_i hij
    subst hij
    rw [AaA hp];rfl
   ·rfl
  have hf':(Instr.findKey kt (enc a) (esV enc l).toList).run P w=.ok (some (Dz a l,(l[Dz a l]'hp).2)) w:=hf w
  unfold Ot
  rw [if_pos hp,AaP]
  simp [Instr.mapUpdate,run_underlying hu,MapKept.run_getObj_map hb,hk.check,hf',hj2,Lh,Instr.keyThatStays,hk.bits,hmod,MapKept.run_setObj_map _ hb,Result.andThen,World.putObj]
end
section
variable {x:Cx} {Q:Exit→Env→World→Prop} {E:Env} {d:Option Tmp} {ty:TypeId} {pos:String} {aft:Array Edge} {g:Option (Nat×Bool)} {c:Ctx} {G:Ah} {H:List Res}
theorem fG {α:Type} [DecidableEq α] {enc:α→Value} {K:Value→World→Prop} {w:World} {t kt et:TypeId} {m kx vx:Operand} {b:Nat} {l:List (α×Value)} {a:α} {v:Value} (hs:St c G (.obj b (.map (esV enc l) l.length)::H) w) (hu:x.P.underlying t=some (.map kt et)) (hk:Ih x.P kt enc) (hn:(l.map (·.1)).Nodup)
  (h1:ev E m=some (.map (some b))) (h2:ev E kx=some (enc a)) (h3:ev E vx=some v)
  (k:∀ w',St c G (.obj b (.map (esV enc (Ot l a v)) (Ot l a v).length)::H) w'→K undef w'):S x ⟨d,.mapUpdate t m kx vx,ty,pos,aft,g⟩ Q K E w:=by
 have hb:w.heap[b]?=some (.map (esV enc l) l.length):=hs.hold (.obj b _) Di
 have hr:=wU (a:=a) (v:=v) hu hk hn hb
 refine Ye rfl fun a' ha=>⟨w.putObj b (.map (esV enc (Ot l a v)) (Ot l a v).length),?_,k _ (hs.write rfl rfl rfl Di (fun k _ hk=>World.putObj_heap_other hk) (World.putObj_heap_same (Dc hb)) (fun k hk=>.inl hk))⟩
 simp only [execOp,ha.ev h1,ha.ev h2,ha.ev h3]
 simp [hr]
theorem tO {α:Type} [DecidableEq α] {enc:α→Value} {K:Value→Prop} {t kt et:TypeId} {m kx:Operand} {b clk:Nat} {l:List (α×Value)} {a:α} {z:Value} (i:Nat) (hi:H[i]?=some (.obj b (.map (esV enc l) clk))) (hu:x.P.underlying t=some (.map kt et)) (hk:Ih x.P kt enc) (hz:∀ w,(zeroValue et).run x.P w=.ok z w) (hn:(l.map (·.1)).Nodup)
  (h1:ev E m=some (.map (some b))) (h2:ev E kx=some (enc a)) (kf:¬ Dz a l<l.length→K (.tuple #[z,.bool false])) (kt':∀ h:Dz a l<l.length,K (.tuple #[(l[Dz a l]'h).2,.bool true])):Y x (St c G H) ⟨d,.lookup t m kx true,ty,pos,aft,g⟩ E K:=by
 rcases hk.hasV a l hn with ⟨h3,h4⟩ | ⟨h3,h4⟩
 ·refine Du (v:=.tuple #[z,.bool false]) (fun a' ha w hw=>?_) (kf h3)
  have hb:w.heap[b]?=some (.map (esV enc l) clk):=hw.hold _ (AaF hi)
  have h4':(Instr.findKey kt (enc a) (esV enc l).toList).run x.P w=.ok none w:=h4 w
  simp only [execOp,ha.ev h1,ha.ev h2]
  simp [Instr.lookup,run_underlying hu,MapKept.run_getObj_map hb,hk.check,h4',hz,Result.andThen]
 ·refine Du (v:=.tuple #[(l[Dz a l]'h3).2,.bool true]) (fun a' ha w hw=>?_) (kt' h3)
  have hb:w.heap[b]?=some (.map (esV enc l) clk):=hw.hold _ (AaF hi)
  have h4':(Instr.findKey kt (enc a) (esV enc l).toList).run x.P w=.ok (some (Dz a l,(l[Dz a l]'h3).2)) w:=h4 w
  simp only [execOp,ha.ev h1,ha.ev h2]
  simp [Instr.lookup,run_underlying hu,MapKept.run_getObj_map hb,hk.check,h4',Result.andThen]
theorem aC {α:Type} [DecidableEq α] {enc:α→Value} {K:Value→Prop} {t kt et:TypeId} {m kx:Operand} {b clk:Nat} {l:List (α×Value)} {a:α} {z:Value} (i:Nat) (hi:H[i]?=some (.obj b (.map (esV enc l) clk))) (hu:x.P.underlying t=some (.map kt et)) (hk:Ih x.P kt enc) (hz:∀ w,(zeroValue et).run x.P w=.ok z w) (hn:(l.map (·.1)).Nodup)
  (h1:ev E m=some (.map (some b))) (h2:ev E kx=some (enc a)) (kf:¬ Dz a l<l.length→K z) (kt':∀ h:Dz a l<l.length,K (l[Dz a l]'h).2):Y x (St c G H) ⟨d,.lookup t m kx false,ty,pos,aft,g⟩ E K:=by
 rcases hk.hasV a l hn with ⟨h3,h4⟩ | ⟨h3,h4⟩
 ·refine Du (v:=z) (fun a' ha w hw=>?_) (kf h3)
  have hb:w.heap[b]?=some (.map (esV enc l) clk):=hw.hold _ (AaF hi)
  have h4':(Instr.findKey kt (enc a) (esV enc l).toList).run x.P w=.ok none w:=h4 w
  simp only [execOp,ha.ev h1,ha.ev h2]
  simp [Instr.lookup,run_underlying hu,MapKept.run_getObj_map hb,hk.check,h4',hz,Result.andThen]
 ·refine Du (v:=(l[Dz a l]'h3).2) (fun a' ha w hw=>?_) (kt' h3)
  have hb:w.heap[b]?=some (.map (esV enc l) clk):=hw.hold _ (AaF hi)
  have h4':(Instr.findKey kt (enc a) (esV enc l).toList).run x.P w=.ok (some (Dz a l,(l[Dz a l]'h3).2)) w:=h4 w
  simp only [execOp,ha.ev h1,ha.ev h2]
  simp [Instr.lookup,run_underlying hu,MapKept.run_getObj_map hb,hk.check,h4',Result.andThen]
end
def itV {α:Type} [DecidableEq α] (b:Nat) (l:List (α×Value)) (done:List α):Obj:=.mapIter (some b) l.length (done.map fun k=>Dz k l).toArray l.length
section
variable {x:Cx} {Q:Exit→Env→World→Prop} {E:Env} {d:Option Tmp} {ty:TypeId} {pos:String} {aft:Array Edge} {g:Option (Nat×Bool)} {c:Ctx} {G:Ah} {H:List Res}
theorem jA {α:Type} [DecidableEq α] {enc:α→Value} {K:Value→World→Prop} {w:World} {t kt et:TypeId} {m:Operand} {b:Nat} {l:List (α×Value)} (hs:St c G H w) (hg:G b=some (.map (esV enc l) l.length)) (hu:x.P.underlying t=some (.map kt et)) (h1:ev E m=some (.map (some b)))
  (k:∀ r w',St c G (.obj r (itV b l [])::H) w'→K (.pointer (some ⟨r,0,none⟩)) w'):S x ⟨d,.range t m,ty,pos,aft,g⟩ Q K E w:=by
 have hb:=hs.ghost _ _ hg
 refine Ko rfl fun a ha=>⟨_,_,?_,k w.heap.size (w.alloc (itV b l [])) (hs.alloc _ ?_ (fun k hk=>hk))⟩
 ·simp only [execOp,ha.ev h1]
  rw [Sem.run_bind,run_range_map w t kt et b _ _ hu hb];rfl
 ·show (w.alloc _).heap[w.heap.size]?=_
  rw [heap_alloc_new]
theorem pX {α:Type} [DecidableEq α] {enc:α→Value} {K:Value→World→Prop} {w:World} {m:Operand} {b r:Nat} {l:List (α×Value)} {done:List α} (hs:St c G (.obj r (itV b l done)::H) w) (hg:G b=some (.map (esV enc l) l.length)) (hnd:(l.map (·.1)).Nodup) (hsub:∀ a∈done,a∈l.map (·.1)) (h1:ev E m=some (.pointer (some ⟨r,0,none⟩)))
  (kn:(∀ p∈l,p.1∈done)→∀ w',St c G (.obj r (itV b l done)::H) w'→K (.tuple #[.bool false]) w')
  (ky:∀ p,p∈l→¬ p.1∈done→∀ w',St c G (.obj r (itV b l (done++[p.1]))::H) w'→K (.tuple #[.bool true,enc p.1,p.2]) w'):S x ⟨d,.next m false,ty,pos,aft,g⟩ Q K E w:=by
 have hb:=hs.ghost _ _ hg
 have hr:w.heap[r]?=some (itV b l done):=hs.hold (.obj r _) Di
 have hborn:∀ e∈(esV enc l).toList,e.born<l.length:=fun e he=>by
  obtain ⟨j,k,hj,rfl⟩:=aA he
  have:=(AbN.1 hj).1
  show 0+j<_;omega
 have hseen:∀ {j:Nat} {p:α×Value},l[j]?=some p→((done.map fun k=>Dz k l).toArray.contains j=true↔p.1∈done):=fun {j p} hj=>by
  rw [List.contains_toArray,List.contains_iff_mem,Aaf]
  constructor
  ·rintro ⟨a,ha,he⟩
   have hp:Dz a l<l.length:=by
    have:=Cb.2 (hsub a ha)
    rwa [AaC] at this
   have h2:l[Dz a l]?=some (l[Dz a l]'hp):=AaA hp
   have h3:l[Dz a l]?=some p:=by rw [he];exact hj
   rw [h3] at h2;injection h2 with h2
   have h4:=aB hp
   rw [← h2] at h4
   rw [h4];exact ha
  ·intro hk;exact ⟨p.1,hk,Wz hnd hj rfl⟩
 rcases run_next_at (P:=x.P) w ty r b l.length l.length (done.map fun k=>Dz k l).toArray (esV enc l) l.length hr hb hborn (AaR _) with ⟨h0,hrun⟩ | ⟨e,he,w1,hal,hrun⟩
 ·refine Ko rfl fun a ha=>⟨_,w,?_,kn (fun p hp=>?_) w hs⟩
  ·simp only [execOp,ha.ev h1]
   rw [Sem.run_bind,hrun];rfl
  ·obtain ⟨j,hj⟩:=List.mem_iff_getElem?.1 hp
   rw [← hseen hj]
   have hem:Lh (enc p.1) p.2 (0+j)∈esV enc l:=by
    unfold esV;rw [List.mem_toArray];exact AaF (by rw [Kf,hj];rfl)
   have:=Array.size_eq_zero_iff.1 h0
   unfold leftOf at this
   rw [Array.filter_eq_empty_iff] at this
   have:=this _ hem
   simpa [Lh] using this
 ·unfold leftOf at he
  rw [Array.mem_toList_iff,Array.mem_filter] at he
  obtain ⟨he,hs2⟩:=he
  obtain ⟨j,p,hj,rfl⟩:=aA (by simpa [esV] using he:e∈Jv enc 0 l)
  have hp:p∈l:=AaF hj
  have hnd2:¬ p.1∈done:=by
   rw [← hseen hj];simpa [Lh] using hs2
  have hs1:St c G (.obj r (itV b l done)::H) w1:=by
   rcases hal with rfl | rfl
   ·exact hs
   ·exact hs.drew
  have hr1:w1.heap[r]?=some (itV b l done):=hs1.hold (.obj r _) Di
  refine Ko rfl fun a ha=>⟨_,_,?_,ky p hp hnd2 (ChangeMaps.setBlock w1 r (itV b l (done++[p.1]))) (hs1.write rfl rfl rfl ?_ ?_ ?_ (fun k hk=>.inl hk))⟩
  ·simp only [execOp,ha.ev h1]
   rw [Sem.run_bind,hrun]
   have:((done.map fun k=>Dz k l).toArray.push (0+j))=((done++[p.1]).map fun k=>Dz k l).toArray:=by
    rw [AaU,Aar,List.map_nil,Wz hnd hj rfl,Abr];simp
   show Result.ok _ _=_
   unfold itV
   rw [← this];rfl
  ·simp [ChangeMaps.setBlock]
  ·intro k' hk' hk2
   have:k'≠r:=fun h=>hk2 h
   simp [ChangeMaps.setBlock,Array.getElem?_setIfInBounds,Ne.symm this]
  ·show (ChangeMaps.setBlock w1 r _).heap[r]?=_
   simp [ChangeMaps.setBlock,Dc hr1]
theorem jB {α:Type} [DecidableEq α] {enc:α→Value} {K:Value→Prop} {m:Operand} {b r:Nat} {l:List (α×Value)} {done:List α} {p:α×Value} (i:Nat) (hi:H[i]?=some (.obj r (itV b l (done++[p.1])))) (hg:G b=some (.map (esV enc l) l.length)) (hnd:(l.map (·.1)).Nodup) (hm:p∈l) (h1:ev E m=some (.pointer (some ⟨r,0,none⟩)))
  (k:K (.tuple #[enc p.1,p.2])):Y x (St c G H) ⟨d,.entry m,ty,pos,aft,g⟩ E K:=by
 refine Du (v:=.tuple #[enc p.1,p.2]) (fun a' ha w hw=>?_) k
 have hb:=hw.ghost _ _ hg
 have hr:w.heap[r]?=some (itV b l (done++[p.1])):=hw.hold _ (AaF hi)
 obtain ⟨j,hj⟩:=List.mem_iff_getElem?.1 hm
 have hpos:=Wz hnd hj rfl
 have he:Lh (enc p.1) p.2 (Dz p.1 l)∈(esV enc l).toList :=
  AaF (i:=j) (by show (Jv enc 0 l)[_]?=_;rw [Kf,hj,hpos,Abr];rfl)
 have hr2:w.heap[r]?=some (.mapIter (some b) l.length ((done.map fun k=>Dz k l).toArray.push (Lh (enc p.1) p.2 (Dz p.1 l)).born) l.length):=by
  rw [hr];unfold itV;rw [AaU];simp [Lh]
 have hn:((esV enc l).toList.map (·.born)).Nodup:=by
  show ((Jv enc 0 l).map (·.born)).Nodup
  rw [dN];exact List.nodup_range'
 have:=run_entry_at (P:=x.P) w r b l.length _ (esV enc l) l.length (Lh (enc p.1) p.2 (Dz p.1 l)) hr2 hb he hn
 simp only [execOp,ha.ev h1]
 rw [Sem.run_bind,this];rfl
end
section
variable {c:Ctx} {G:Ah} {H:List Res} {w:World}
theorem Uj {β γ:Type} (f:β→List γ):∀ (l:List β) (i:Nat) (h:i<l.length),(l.flatMap f).Perm (f l[i]++(l.eraseIdx i).flatMap f)
 | x::l,0,_=>List.Perm.refl _
 | x::l,i+1,h=>by
  have ih:=Uj f l i iB
  rw [Aan,List.eraseIdx_cons_succ,Aan,List.getElem_cons_succ]
  refine (ih.append_left (f x)).trans ?_
  rw [← AaI,← AaI]
  exact Abd.append_right _
theorem St.pick {β:Type} {f:β→List Res} {l:List β} {A:List Res} (i:Nat) (h:i<l.length) (hs:St c G (A++l.flatMap f) w):St c G (f l[i]++(A++(l.eraseIdx i).flatMap f)) w:=by
 refine hs.perm ?_
 refine ((Uj f l i h).append_left A).trans ?_
 rw [← AaI,← AaI]
 exact Abd.append_right _
theorem St.unpick {β:Type} {f:β→List Res} {l:List β} {A:List Res} (i:Nat) (h:i<l.length) (y:β) (hs:St c G (f y++(A++(l.eraseIdx i).flatMap f)) w):St c G (A++(l.set i y).flatMap f) w:=by
 have h2:i<(l.set i y).length:=by rw [AaP];exact h
 have hp:=Uj f (l.set i y) i h2
 rw [Aby,List.eraseIdx_set_eq] at hp
 refine hs.perm ?_
 refine List.Perm.symm ?_
 refine (hp.append_left A).trans ?_
 rw [← AaI,← AaI]
 exact Abd.append_right _
theorem St.push {β:Type} {f:β→List Res} {l:List β} {A:List Res} (y:β) (hs:St c G (f y++(A++l.flatMap f)) w):St c G (A++(l++[y]).flatMap f) w:=by
 refine hs.perm ?_
 rw [Abl,Aan,List.flatMap_nil,AaX,← AaI A]
 exact Abd
end
section
variable {x:Cx} {E:Env} {d:Option Tmp} {ty:TypeId} {pos:String} {aft:Array Edge} {g:Option (Nat×Bool)} {c:Ctx} {G:Ah} {H:List Res} {W:World→Prop}
theorem fH {K:Value→Prop} {t kt et:TypeId} {m:Operand} {b clk n:Nat} {es:Array MapEntry} (i:Nat) (hi:H[i]?=some (.obj b (.map es clk))) (hn:es.size=n) (hu:x.P.underlying t=some (.map kt et))
  (h1:ev E m=some (.map (some b))) (k:K (.int .i64 (n:Int))):Y x (St c G H) ⟨d,.call { callee:=.builtin .len,args:=#[m],argTypes:=#[t] },ty,pos,aft,g⟩ E K:=by
 subst hn
 refine Du (v:=.int .i64 (es.size:Int)) (fun a ha w hw=>?_) k
 have hb:w.heap[b]?=some (.map es clk):=hw.hold _ (AaF hi)
 simp [execOp,resolve,invoke,builtin,Builtin.len_,ha.ev h1,run_underlying hu,goInt,MapKept.run_getObj_map hb,Result.andThen]
theorem Uk {α:Type} {enc:α→Value} (ks:List α):(En enc ks).toArray.size=ks.length:=by
 have:∀ (i:Nat) (ks:List α),(Ir enc i ks).length=ks.length:=by
  intro i ks
  induction ks generalizing i with
  | nil=>rfl
  | cons k ks ih=>rw [Ir,AaZ,AaZ,ih]
 exact this 0 ks
theorem Pp {K:Value→Prop} {o q:Operand} {t e:TypeId} {kd:IntKind} {n:Nat} {p:Addr} {j:Int} (i:Nat) (hu:x.P.underlying t=some (.array n e)) (hs:∀ w,(sizeOf e).run x.P w=.ok 1 w)
  (h1:ev E o=some (.pointer (some p))) (h2:ev E q=some (.int kd j)) (hj:j=(i:Int)) (hlt:i<n)
  (k:K (.pointer (some (p.add i)))):Y x W ⟨d,.indexAddr t o q,ty,pos,aft,g⟩ E K :=
 tJ i hu hs h1 h2 hj hlt (by rw [Abf];exact k)
end
section
variable {x:Cx} {ops:Array Oper} {pre:List Nat} {W:World→Prop} {Q:Exit→Env→World→Prop} {w:World}
theorem A_twoN (i j:Nat) {t:Tmp} {op op':Op} {ty ty':TypeId} {pos pos':String} {aft aft':Array Edge} {g g':Option (Nat×Bool)} {D:List Deferred} {L:List (Nat×Value)} {fuel:Nat} {listed:Array Bool} (hi:ops[i]?=some ⟨some t,op,ty,pos,aft,g⟩) (hj:ops[j]?=some ⟨none,op',ty',pos',aft',g'⟩)
  (hr:(Region.ready .any ops listed == [i,j])=true) (hg:gd ops ⟨some t,op,ty,pos,aft,g⟩ ⟨D,L⟩=some true) (hg':gd ops ⟨none,op',ty',pos',aft',g'⟩ ⟨D,L⟩=some true)
  (h:S x ⟨some t,op,ty,pos,aft,g⟩ (np Q) (fun v w'=>W w'∧A x ops pre W Q fuel (listed.setIfInBounds i true) ⟨D,(t,v)::L⟩ w') ⟨D,L⟩ w)
  (h':S x ⟨none,op',ty',pos',aft',g'⟩ (np Q) (fun _ w'=>W w'∧A x ops pre W Q fuel (listed.setIfInBounds j true) ⟨D,L⟩ w') ⟨D,L⟩ w):A x ops pre W Q (fuel+1) listed ⟨D,L⟩ w :=
 pF [i,j] (by simpa using hr) fun k hk=>by
  rcases (by simpa using hk:k=i∨k=j) with rfl | rfl
  ·exact ⟨_,hi,hg,Kl h fun _ _ hv=>⟨fun _=>hv.1,hv.2⟩⟩
  ·exact ⟨_,hj,hg',Kl h' fun _ _ hv=>⟨fun _=>hv.1,hv.2⟩⟩
end
def pairI (p:Int×Int):Value:=.agg #[.int .i64 p.1,.int .i64 p.2]
theorem Hf.pairI {P:Program} {t e:TypeId} (ht:P.underlying t=some (.array 2 e)) (hS:∀ w,(sizeOf e).run P w=.ok 1 w) (hA:∀ w,(isAgg e).run P w=.ok false w) (he:P.underlying e=some (.int .i64)):Hf P t Go.Ex.pairI:=by
 refine Hf.asked ht ?_ ?_ ?_ ?_
 ·rintro ⟨a,b⟩ ⟨c,d⟩ h
  simp only [Go.Ex.pairI,Value.agg.injEq] at h
  simp at h
  obtain ⟨rfl,rfl⟩:=h
  rfl
 ·rintro em ⟨a,b⟩ w
  exact Zh em 9998 ht hS hA he _ _
 ·rintro ⟨a,b⟩ ⟨c,d⟩;rfl
 ·rintro ⟨a,b⟩ ⟨c,d⟩ w
  show (Op.equalIn (9998+2) t _ _).run P w=_
  rw [Go.Ex.pairI,Go.Ex.pairI,Uf 9998 ht hS hA he]
  congr 1
  rw [AbG];simp only [Aah,decide_eq_true_eq,Prod.mk.injEq]
theorem wV {z:Array Value} {k:Nat} (hk:z.size=k) (n:Nat):(madeCells z (n*k)).toList=(List.replicate n z.toList).flatten:=by
 rw [← Pk z k hk n];subst hk
 unfold madeCells
 simp
theorem Lz {l:List Value}:∀ n,((List.replicate n l).flatten).length=n*l.length
 | 0=>by simp
 | n+1=>by rw [AbY,AbW,AaB,Lz n,AcK,Nat.add_comm]
section
variable {x:Cx} {Q:Exit→Env→World→Prop} {E:Env} {K:Value→World→Prop} {w:World} {d:Option Tmp} {ty:TypeId} {pos:String} {aft:Array Edge} {g:Option (Nat×Bool)} {c:Ctx} {G:Ah} {H:List Res}
theorem pY {o p:Operand} {t e:TypeId} {kd kd':IntKind} {u:Value} {k bytes n:Nat} (hs:St c G H w) (ht:x.P.underlying t=some (.slice e)) (hi:TI x.P e u k bytes) (hu:u.cells.size=k)
  (ho:ev E o=some (.int kd (n:Int))) (hp:ev E p=some (.int kd' (n:Int))) (hb:bytes*n≤281474976710656) (hm:n≤281474976710656)
  (kk:∀ b w',St c G (.row e k (.slice (some ⟨b,0,none⟩) n n) n (List.replicate n u.cells.toList).flatten::H) w'→K (.slice (some ⟨b,0,none⟩) n n) w'):S x ⟨d,.makeSlice t o p,ty,pos,aft,g⟩ Q K E w:=by
 obtain ⟨i,hi,hz,hik,hib⟩:=hi
 have hr:=run_make (P:=x.P) w t e i u ht hi hz kd kd' (n:Int) (n:Int) Bm Bm (by
  rw [hib]
  have h:((bytes*n:Nat):Int)≤281474976710656:=by omega
  rwa [Int.natCast_mul] at h) Bm
 simp only [AbE,hik] at hr
 have hrow:Res.holds (w.alloc (.cells (madeCells u.cells (n*k)) e)) (.row e k (.slice (some ⟨w.heap.size,0,none⟩) n n) n (List.replicate n u.cells.toList).flatten):=by
  refine ⟨by rw [Lz,Abe,hu],.inr ⟨_,_,_,rfl,Aas _,heap_alloc_new w _,AaR _,by unfold maxLen;omega,by rw [size_madeCells],?_⟩⟩
  rw [wV hu,Aab (by rw [Lz,Abe,hu];exact AaR _)]
 refine Ko rfl fun a ha=>⟨_,_,?_,kk w.heap.size _ (hs.alloc _ hrow (fun j hj=>by
  have:w.heap.size=j:=by simpa [Res.foot,Value.ownBlock] using hj
  exact this.symm))⟩
 simp only [execOp,ha.ev ho,ha.ev hp]
 simp [hr]
theorem mX {o p:Operand} {t ti e:TypeId} {kd:IntKind} {z:Value} {k bytes n:Nat} (hs:St c G H w) (ht:x.P.underlying t=some (.slice e)) (hti:x.P.underlying ti=some (.int kd)) (hi:TI x.P e z k bytes) (hzk:z.cells.size=k) (hk0:0<k)
  (ho:ev E o=some (.slice none 0 0)) (hp:ev E p=some (.int kd (n:Int))) (h0:0<n) (hb:n*bytes≤140737488355328) (hm:n≤140737488355328)
  (kk:∀ b cp xs w',n≤cp→St c G (.row e k (.slice (some ⟨b,0,none⟩) n cp) n xs::H) w'→K (.slice (some ⟨b,0,none⟩) n cp) w'):S x ⟨d,.call { callee:=.builtin .append,args:=#[o,p],argTypes:=#[t,ti] },ty,pos,aft,g⟩ Q K E w:=by
 obtain ⟨i,hi,hz,hik,hib⟩:=hi
 have wl:IntKind.i64.wrap (n:Int)=n:=Ed Bm
 have hbz:((n:Int)*(i.bytes:Int))≤140737488355328:=by
  have h:((n*bytes:Nat):Int)≤140737488355328:=by omega
  rw [hib];rwa [Int.natCast_mul] at h
 have e1:¬ ((281474976710656:Int)<(n:Int)*(i.bytes:Int)):=Int.not_lt.2 (Int.le_trans hbz Lk)
 have e2:Builtin.nextslicecap n 0=n:=nextslicecap_zero h0
 have e3:¬ (281474976710656<n*i.bytes):=by rw [hib];omega
 have hgc:=grownCap_ge w n 0 e
 have hcm:=grownCap_le_maxLen w n 0 e (by unfold maxLen;omega)
 have hd1:St c G H w.drew:=hs.drew
 have hsz:∀ q,(Builtin.zeroCells z.cells q).size=q*k:=fun q=>by rw [size_zeroCells,hzk]
 have hrow:Res.holds (w.drew.alloc (.cells (Builtin.zeroCells z.cells n++Builtin.zeroCells z.cells (grownCap w n 0 e-n)) e)) (.row e k (.slice (some ⟨w.heap.size,0,none⟩) n (grownCap w n 0 e)) n (Builtin.zeroCells z.cells n).toList):=by
  refine ⟨by rw [Abe,hsz],.inr ⟨_,_,_,rfl,Aas _,heap_alloc_new w.drew _,hgc,hcm,?_,?_⟩⟩
  ·rw [Array.size_append,hsz,hsz,← AcN];congr 1;omega
  ·rw [Array.toList_append]
   exact List.take_left' (by rw [Abe,hsz])
 refine Ko rfl fun a ha=>⟨_,_,?_,kk w.heap.size (grownCap w n 0 e) (Builtin.zeroCells z.cells n).toList _ hgc (hd1.alloc _ hrow (fun j hj=>by
  have:w.heap.size=j:=by simpa [Res.foot,Value.ownBlock] using hj
  exact this.symm))⟩
 have hl0:¬ ((n:Int)<0):=by omega
 have hn0:¬ (n=0):=by omega
 have hbig:¬ (9223372036854775807<(n:Int)):=by omega
 have hnk:¬ (n*k=0):=Nat.ne_of_gt (Nat.mul_pos h0 hk0)
 have hrun:(Builtin.append_ #[t,ti] ty #[.slice none 0 0,.int kd (n:Int)]).run x.P w=.ok (.slice (some ⟨w.heap.size,0,none⟩) n (grownCap w n 0 e)) (w.drew.alloc (.cells (Builtin.zeroCells z.cells n++Builtin.zeroCells z.cells (grownCap w n 0 e-n)) e)):=by
  simp [Builtin.append_,run_underlying ht,run_underlying hti,sizeOf,typeInfo,zeroValue,hi,hz,hik,asInt,asIntOf,wl,e1,e2,e3,hn0,hbig,Question.forced,run_firstCells_none,newRow,grownCap,hl0,hnk]
 simp [execOp,resolve,invoke,builtin,ha.ev ho,ha.ev hp,hrun]
end
theorem Wb {kd kd':IntKind} (n:Int):∀ (es:List MapEntry) (i:Nat),(∀ e∈es,∃ b:Int,e.key=.int kd b) →
  (Instr.findNow (.int kd') (.int kd n) es i=some none∧∀ e∈es,e.key≠.int kd n)∨∃ (j:Nat) (e:MapEntry),es[j]?=some e∧Instr.findNow (.int kd') (.int kd n) es i=some (some (i+j,e.val))∧e.key=.int kd n
 | [],i,_=>.inl ⟨rfl,by simp⟩
 | e::es,i,h=>by
  obtain ⟨b,hb⟩:=h e Di
  have hs:Instr.sameNow (.int kd') (.int kd n) e.key=some (n == b):=by rw [hb];simp [Instr.sameNow]
  by_cases hnb:n=b
  ·right
   refine ⟨0,e,rfl,?_,by rw [hb,hnb]⟩
   rw [Instr.findNow,hs,beq_iff_eq.2 hnb];rfl
  ·have hf:(n == b)=false:=beq_eq_false_iff_ne.2 hnb
   have hne:e.key≠.int kd n:=fun he=>hnb (by rw [hb] at he;injection he with _ he;exact he.symm)
   rcases Wb n es (i+1) (fun x hx=>h x pB) with ⟨h1,h2⟩ | ⟨j,e',h1,h2,h3⟩
   ·left
    refine ⟨by rw [Instr.findNow,hs,hf];exact h1,fun x hx=>?_⟩
    rcases AaV.1 hx with rfl | hx
    ·exact hne
    ·exact h2 x hx
   ·right
    refine ⟨j+1,e',h1,?_,h3⟩
    rw [Instr.findNow,hs,hf]
    show Instr.findNow _ _ es (i+1)=_
    rw [h2,show i+1+j=i+(j+1) by omega]
theorem Ih.int {α:Type} {P:Program} {kt:TypeId} {kd:IntKind} {f:α→Int} (hu:P.underlying kt=some (.int kd)) (hinj:∀ a b,f a=f b→a=b):Ih P kt (fun a=>Value.int kd (f a)) where
 inj a b h:=hinj a b (by injection h)
 bits a:=by simp [Instr.sameBits]
 check em a w:=MapKept.run_checkKey (k:=.int kd (f a)) hu (by simp [MapKept.IsKey]) em 9999
 find a es hes:=by
  have hk:∀ e∈es,∃ b:Int,e.key=.int kd b:=fun e he=>by obtain ⟨b,hb⟩:=hes e he;exact ⟨f b,hb⟩
  rcases Wb (kd:=kd) (kd':=kd) (f a) es 0 hk with ⟨h1,h2⟩ | ⟨j,e,h1,h2,h3⟩
  ·exact .inl ⟨fun w=>by simp [Instr.findKey,run_underlying hu,h1],h2⟩
  ·refine .inr ⟨j,e,h1,fun w=>?_,h3⟩
   rw [Abr] at h2
   simp [Instr.findKey,run_underlying hu,h2]
def Wc (b:UInt8):Value:=.int .u8 (b.toNat:Int)
def fI (n:Nat):Value:=.int .i64 (n:Int)
theorem Ih.byte {P:Program} {kt:TypeId} (hu:P.underlying kt=some (.int .u8)):Ih P kt Wc:=Ih.int (f:=fun b:UInt8=>(b.toNat:Int)) hu fun a b h=>AcI.1 Bm
theorem Ih.nat {P:Program} {kt:TypeId} (hu:P.underlying kt=some (.int .i64)):Ih P kt fI:=Ih.int (f:=fun n:Nat=>(n:Int)) hu fun a b h=>by omega
theorem Ih.pair {P:Program} {t e:TypeId} (ht:P.underlying t=some (.array 2 e)) (hS:∀ w,(sizeOf e).run P w=.ok 1 w) (hA:∀ w,(isAgg e).run P w=.ok false w) (he:P.underlying e=some (.int .i64)):Ih P t Gx:=by
 refine Ih.asked (td:=.array 2 e) ht ?_ ?_ ?_ ?_ ?_
 ·exact (Hf.pair ht hS hA he).inj
 ·rintro ⟨a,b⟩;simp [Gx,Instr.sameBits]
 ·exact (Hf.pair ht hS hA he).check
 ·rintro ⟨a,b⟩ ⟨c,d⟩;rfl
 ·rintro ⟨a,b⟩ ⟨c,d⟩ w
  show (Op.equalIn (9998+2) t _ _).run P w=_
  rw [Gx,Gx,Uf 9998 ht hS hA he]
  congr 1
  rw [AbG];simp only [Aah,decide_eq_true_eq,Prod.mk.injEq];omega
def mY (G:Ah):Res→Prop
 | .blk b e cs=>G b=some (.cells cs.toArray e (0,0))
 | .row _ k v n xs=>Sl G v k n xs
 | .obj b o=>G b=some o
theorem mY.mono {G G':Ah} (h:G.le G') {r:Res} (hr:mY G r):mY G' r:=by
 cases r with
 | blk b e cs=>exact h _ _ hr
 | row e k v n xs=>exact Sl.mono h hr
 | obj b o=>exact h _ _ hr
theorem St.frz {c:Ctx} {G:Ah} {r:Res} {H:List Res} {w:World} (hs:St c G (r::H) w) (hM:∀ k,r.foot k→¬ c.M k):∃ G',G.le G'∧mY G' r∧St c G' H w:=by
 obtain ⟨G',h1,h2,h3⟩:=hs.freeze hM
 refine ⟨G',h1,?_,h3⟩
 have hr:=hs.hold r Di
 cases r with
 | blk b e cs=>exact (h2 b rfl).trans hr
 | row e k v n xs=>exact Sl.of_row hr fun b hb=>h2 b hb
 | obj b o=>exact (h2 b rfl).trans hr
theorem St.frzAll {c:Ctx}:∀ (A:List Res) {G:Ah} {H:List Res} {w:World},St c G (A++H) w→(∀ r∈A,∀ k,r.foot k→¬ c.M k)→∃ G',G.le G'∧(∀ r∈A,mY G' r)∧St c G' H w
 | [],G,H,w,hs,_=>⟨G,gLr G,fun _ h=>Wn,hs⟩
 | r::A,G,H,w,hs,hM=>by
  obtain ⟨G1,h1,h2,h3⟩:=St.frz (H:=A++H) hs (hM r AaK)
  obtain ⟨G2,h4,h5,h6⟩:=St.frzAll A h3 fun s hs=>hM s (AaG _ hs)
  refine ⟨G2,h1.trans h4,fun s hs=>?_,h6⟩
  rcases AaV.1 hs with rfl | hs
  ·exact h2.mono h4
  ·exact h5 s hs
end Go.Ex
namespace Go.Ex
open Go Go.RowKit Go.ChangeShapes Go.WideShapes Go.ChangeAt
section
variable {H:Type} {enc:TypeId×Value→H} {P:Program}
inductive Hg (d:DataW H):DataW H→Prop
 | one {l:List (DataW H)}:d∈l→Hg d (.agg l)
 | two {e:DataW H} {l:List (DataW H)}:Hg d e→e∈l→Hg d (.agg l)
structure RawDTy (P:Program) (t:TypeId) where
 f:Fin 3→Field
 e1:TypeId
 ht:P.underlying t=some (.struct #[f 0,f 1,f 2])
 ct:P.cellsOf t=3
 off:(f 0).offset=0∧(f 1).offset=1∧(f 2).offset=2
 cel:P.cellsOf (f 0).type=1∧P.cellsOf (f 1).type=1∧P.cellsOf (f 2).type=1
 und:P.underlying (f 0).type=some (.int .u8)∧P.underlying (f 1).type=some (.slice e1)∧P.underlying (f 2).type=some (.int .u8)
 el:P.underlying e1=some (.int .u8)
 ce:P.cellsOf e1=1
theorem Qr {W:World} {t:TypeId} {ls:List Value} {fuel:Nat} {x:DataW H×List MemPlace} (T:RawDTy P t) (h:DataW.trod enc P W 0 (fun _=>true) true fuel t ls=some x) :
  ∃ (a b:UInt8) (v:Value) (l:List UInt8) (d:DataW H),ls=[.int .u8 (a.toNat:Int),v,.int .u8 (b.toNat:Int)]∧Bd (Ex.whole W) v l∧Ho d l.length∧Hg d x.1:=by
 obtain ⟨f,e1,ht,ct,⟨o0,o1,o2⟩,⟨c0,c1,c2⟩,⟨u0,u1,u2⟩,l1,d1⟩:=T
 obtain ⟨xs,m,_,rfl,hl,hxl,hf⟩:=DataW.trod_struct ht h
 have hl2:ls.length=3:=hl.trans ct
 clear hl
 match ls,hl2 with
 | [a0,a1,a2],_ =>
  have g0:=hf 0 (f 0) rfl
  have g1:=hf 1 (f 1) rfl
  have g2:=hf 2 (f 2) rfl
  rw [o0,c0] at g0;rw [o1,c1] at g1;rw [o2,c2] at g2
  have hx:xs.length=3:=hxl
  obtain ⟨z0,rfl,w0⟩:=Sj u0 (x:=xs[0]'Bm) (v:=a0) (by rw [← AaA];exact g0)
  obtain ⟨z2,rfl,w2⟩:=Sj u2 (x:=xs[2]'Bm) (v:=a2) (by rw [← AaA];exact g2)
  obtain ⟨l,hb,hp⟩:=bytes_rowN u1 l1 d1 (x:=xs[1]'Bm) (v:=a1) (by rw [← AaA];exact g1)
  obtain ⟨a,rfl⟩:=pQ w0
  obtain ⟨b,rfl⟩:=pQ w2
  exact ⟨a,b,a1,l,_,rfl,hb,hp,.one (Aal (AaD _))⟩
structure RawTTy (P:Program) (t:TypeId) where
 f:Fin 5→Field
 e:TypeId
 ht:P.underlying t=some (.struct #[f 0,f 1,f 2,f 3,f 4])
 ct:P.cellsOf t=5
 off:(f 0).offset=0∧(f 1).offset=1∧(f 2).offset=2∧(f 3).offset=3∧(f 4).offset=4
 cel:P.cellsOf (f 0).type=1∧P.cellsOf (f 1).type=1∧P.cellsOf (f 2).type=1∧P.cellsOf (f 3).type=1∧P.cellsOf (f 4).type=1
 und:P.underlying (f 0).type=some (.int .u8)∧P.underlying (f 1).type=some (.slice e)∧P.underlying (f 2).type=some (.slice e)∧P.underlying (f 3).type=some (.int .u8)∧P.underlying (f 4).type=some (.slice e)
 el:P.underlying e=some (.int .u8)
 ce:P.cellsOf e=1
theorem mZ {W:World} {t:TypeId} {ls:List Value} {fuel:Nat} {x:DataW H×List MemPlace} (T:RawTTy P t) (h:DataW.trod enc P W 0 (fun _=>true) true fuel t ls=some x) :
  ∃ (a b:UInt8) (v1 v2 v3:Value) (l1 l2 l3:List UInt8) (d1 d2 d3:DataW H),ls=[.int .u8 (a.toNat:Int),v1,v2,.int .u8 (b.toNat:Int),v3]∧(Bd (Ex.whole W) v1 l1∧Ho d1 l1.length∧Hg d1 x.1)∧(Bd (Ex.whole W) v2 l2∧Ho d2 l2.length∧Hg d2 x.1)∧(Bd (Ex.whole W) v3 l3∧Ho d3 l3.length∧Hg d3 x.1):=by
 obtain ⟨f,e1,ht,ct,⟨o0,o1,o2,o3,o4⟩,⟨c0,c1,c2,c3,c4⟩,⟨u0,u1,u2,u3,u4⟩,l1,d1⟩:=T
 obtain ⟨xs,m,_,rfl,hl,hxl,hf⟩:=DataW.trod_struct ht h
 have hl2:ls.length=5:=hl.trans ct
 clear hl
 match ls,hl2 with
 | [a0,a1,a2,a3,a4],_ =>
  have g0:=hf 0 (f 0) rfl
  have g1:=hf 1 (f 1) rfl
  have g2:=hf 2 (f 2) rfl
  have g3:=hf 3 (f 3) rfl
  have g4:=hf 4 (f 4) rfl
  rw [o0,c0] at g0;rw [o1,c1] at g1;rw [o2,c2] at g2;rw [o3,c3] at g3;rw [o4,c4] at g4
  have hx:xs.length=5:=hxl
  obtain ⟨z0,rfl,w0⟩:=Sj u0 (x:=xs[0]'Bm) (v:=a0) (by rw [← AaA];exact g0)
  obtain ⟨z3,rfl,w3⟩:=Sj u3 (x:=xs[3]'Bm) (v:=a3) (by rw [← AaA];exact g3)
  obtain ⟨m1,b1,p1⟩:=bytes_rowN u1 l1 d1 (x:=xs[1]'Bm) (v:=a1) (by rw [← AaA];exact g1)
  obtain ⟨m2,b2,p2⟩:=bytes_rowN u2 l1 d1 (x:=xs[2]'Bm) (v:=a2) (by rw [← AaA];exact g2)
  obtain ⟨m4,b4,p4⟩:=bytes_rowN u4 l1 d1 (x:=xs[4]'Bm) (v:=a4) (by rw [← AaA];exact g4)
  obtain ⟨a,rfl⟩:=pQ w0
  obtain ⟨b,rfl⟩:=pQ w3
  exact ⟨a,b,a1,a2,a4,m1,m2,m4,_,_,_,rfl,⟨b1,p1,.one (Aal (AaD _))⟩,⟨b2,p2,.one (Aal (AaD _))⟩,⟨b4,p4,.one (Aal (AaD _))⟩⟩
theorem wW {W:World} {t:TypeId} {r:Reach} {b0:Nat} {v:Value} {fs:Array Field} (ht:P.underlying t=some (.struct fs)) (hv:Value.okWide P W r b0 t v):∃ ls,v=.agg ⟨ls⟩∧v.cells.toList=ls:=by
 have hagg:∃ cs,v=.agg cs:=by
  simp only [Value.okWide,ht] at hv
  cases v<;>simp_all
 obtain ⟨⟨ls⟩,rfl⟩:=hagg
 exact ⟨ls,rfl,rfl⟩
theorem rawT_val {W:World} {t:TypeId} {r:Reach} {b0:Nat} {v:Value} {fuel:Nat} {x:DataW H×List MemPlace} (T:RawTTy P t) (hv:Value.okWide P W r b0 t v) (h:DataW.trod enc P W 0 (fun _=>true) true fuel t v.cells.toList=some x) :
  ∃ (a b:UInt8) (v1 v2 v3:Value) (l1 l2 l3:List UInt8) (d1 d2 d3:DataW H),v=.agg #[.int .u8 (a.toNat:Int),v1,v2,.int .u8 (b.toNat:Int),v3]∧(Bd (Ex.whole W) v1 l1∧Ho d1 l1.length∧Hg d1 x.1)∧(Bd (Ex.whole W) v2 l2∧Ho d2 l2.length∧Hg d2 x.1)∧(Bd (Ex.whole W) v3 l3∧Ho d3 l3.length∧Hg d3 x.1):=by
 obtain ⟨ls,rfl,e⟩:=wW T.ht hv
 rw [e] at h
 obtain ⟨a,b,v1,v2,v3,l1,l2,l3,d1,d2,d3,rfl,h1,h2,h3⟩:=mZ T h
 exact ⟨a,b,v1,v2,v3,l1,l2,l3,d1,d2,d3,rfl,h1,h2,h3⟩
theorem rawD_val {W:World} {t:TypeId} {r:Reach} {b0:Nat} {v:Value} {fuel:Nat} {x:DataW H×List MemPlace} (T:RawDTy P t) (hv:Value.okWide P W r b0 t v) (h:DataW.trod enc P W 0 (fun _=>true) true fuel t v.cells.toList=some x) :
  ∃ (a b:UInt8) (v1:Value) (l1:List UInt8) (d1:DataW H),v=.agg #[.int .u8 (a.toNat:Int),v1,.int .u8 (b.toNat:Int)]∧Bd (Ex.whole W) v1 l1∧Ho d1 l1.length∧Hg d1 x.1:=by
 obtain ⟨ls,rfl,e⟩:=wW T.ht hv
 rw [e] at h
 obtain ⟨a,b,v1,l1,d1,rfl,h1⟩:=Qr T h
 exact ⟨a,b,v1,l1,d1,rfl,h1⟩
theorem rawD2_val {W:World} {t e:TypeId} {r:Reach} {b0:Nat} {v:Value} {fuel:Nat} {x:DataW H×List MemPlace} (ht:P.underlying t=some (.array 2 e)) (ct2:P.cellsOf t=6) (T:RawDTy P e) (hv:Value.okWide P W r b0 t v) (h:DataW.trod enc P W 0 (fun _=>true) true fuel t v.cells.toList=some x) :
  ∃ (a b c d:UInt8) (v1 v2:Value) (l1 l2:List UInt8) (d1 d2:DataW H),v=.agg #[.int .u8 (a.toNat:Int),v1,.int .u8 (b.toNat:Int),.int .u8 (c.toNat:Int),v2,.int .u8 (d.toNat:Int)]∧(Bd (Ex.whole W) v1 l1∧Ho d1 l1.length∧Hg d1 x.1)∧(Bd (Ex.whole W) v2 l2∧Ho d2 l2.length∧Hg d2 x.1):=by
 have hagg:∃ cs,v=.agg cs:=by
  simp only [Value.okWide,ht] at hv
  cases v<;>simp_all
 obtain ⟨⟨ls⟩,rfl⟩:=hagg
 obtain ⟨xs,m,_,rfl,hl,hn,hx⟩:=DataW.trod_array ht h
 have h0:=hx 0 Bm
 have h1:=hx 1 Bm
 rw [T.ct] at h0 h1
 rw [AaA Bm] at h0 h1
 obtain ⟨a,b,v1,l1,d1,e1,b1,p1,q1⟩:=Qr T h0
 obtain ⟨c,d,v2,l2,d2,e2,b2,p2,q2⟩:=Qr T h1
 refine ⟨a,b,c,d,v1,v2,l1,l2,d1,d2,?_,⟨b1,p1,.two q1 (Aal (AaD _))⟩,⟨b2,p2,.two q2 (Aal (AaD _))⟩⟩
 have hl6:ls.length=6:=Eq.trans hl ct2
 match ls,hl6 with
 | [a0,a1,a2,a3,a4,a5],_ =>
  simp at e1 e2
  obtain ⟨rfl,rfl,rfl⟩:=e1
  obtain ⟨rfl,rfl,rfl⟩:=e2
  rfl
end
end Go.Ex
namespace Go.Proofs.YtmohebpaonkaeaaGreatDoor.Bulk
open Go Go.Ex
theorem part {H:Type} {d x:DataW H} (h:Hg d x):Rows.uptoBulk d≤Rows.uptoBulk x:=by
 induction h with
 | one hd=>have:=mem hd;rw [Rows.uptoBulk];omega
 | two _ he ih=>have:=mem he;rw [Rows.uptoBulk];omega
theorem len_deep {H:Type} {d x:DataW H} {l:List (DataW H)} {n:Nat} (h:Ho d n) (hd:Hg d x) (hx:x∈l) (hk:Rows.uptoSmall H l=true):n≤1048576 :=
 Aai (places h) (Aai (part hd) (Aai (mem hx) (bound hk)))
end Go.Proofs.YtmohebpaonkaeaaGreatDoor.Bulk
namespace Go.Proofs.YtmohebpaonkaeaaGreatDoor
open Go Go.Ex
theorem cP (l:List UInt8) (k:Nat) (h:k<l.length):(l.take (k+1)).map Dy=(l.take k).map Dy++[.int .u8 (l[k].toNat:Int)]:=by
 rw [Aay,AaA h,AaU];rfl
theorem Bu {α β:Type} (f:β→α→β) (z:β) (l:List α) (k:Nat) (h:k<l.length):(l.take (k+1)).foldl f z=f ((l.take k).foldl f z) l[k]:=by
 rw [Aay,AaA h,Aap];rfl
theorem wX {p:UInt8→Prop} (h:∀ n:Fin 256,p (UInt8.ofNat n.val)) (x:UInt8):p x:=by
 have:=h ⟨x.toNat,x.toNat_lt⟩
 simpa using this
def tab64:List Nat:=[0,1,56,2,57,49,28,3,61,58,42,50,38,29,17,4,62,47,59,36,45,43,51,22,53,39,33,30,24,18,12,5,63,55,48,27,60,41,37,16,46,35,44,21,52,32,23,11,54,26,40,15,34,20,31,10,25,14,19,9,13,8,7,6]
def Tab (G:Ah):Prop:=∀ i,i<64→Fc G ⟨0,i,none⟩=some (.int .u8 ((tab64.getD i 0:Nat):Int))
theorem Tab.mono {G G':Ah} (h:G.le G') (ht:Tab G):Tab G':=fun i hi=>Km h (ht i hi)
theorem wY (i:Nat):tab64.getD i 0≤63:=by
 rcases AaM i 64 with h | h
 ·exact (by decide:∀ i<64,tab64.getD i 0≤63) i h
 ·rw [AaH,AaL (by exact h)];decide
def tzI (x:Nat):Nat:=iM (Dn x (Im 0 x)) 285870213051353865 / 2 ^ 58
theorem wZ (x:Nat):tzI x<64:=by
 unfold tzI iM W64;omega
def nA (x:Nat):Nat:=if x=0 then 64 else tab64.getD (tzI x) 0
theorem xA (x:Nat):nA x≤64:=by
 unfold nA;split
 ·omega
 ·have:=wY (tzI x);omega
def tP (x:Nat):Nat:=Nv (Dn (x / 2 ^ 1) 6148914691236517205) (Dn x 6148914691236517205)
def tQ (x:Nat):Nat:=Nv (Dn (x / 2 ^ 2) 3689348814741910323) (Dn x 3689348814741910323)
def xB (x:Nat):Nat:=Dn (Nv (x / 2 ^ 4) x) 1085102592571150095
def Kv (k x:Nat):Nat:=Nv x (x / 2 ^ k)
def nB (x:Nat):Nat:=Kv 32 (Kv 16 (Kv 8 (xB (tQ (tP x)))))
def Ou (x:Nat):Nat:=Dn (nB x) 127
theorem Sq (a b:Nat):Dn a b≤b:=Aai Nat.and_le_right (Nat.mod_le _ _)
theorem pop6_lt (x:Nat):nB x<9223372036854775808:=by
 unfold nB
 have h3:xB (tQ (tP x))≤1085102592571150095:=Sq _ _
 generalize xB (tQ (tP x))=y at *
 have h4:Kv 8 y≤y+y / 256:=Nat.mod_le _ _
 have h5:Kv 16 (Kv 8 y)≤Kv 8 y+Kv 8 y / 65536:=Nat.mod_le _ _
 have h6:Kv 32 (Kv 16 (Kv 8 y))≤Kv 16 (Kv 8 y)+Kv 16 (Kv 8 y) / 4294967296:=Nat.mod_le _ _
 omega
theorem pZ (x:Nat):Ou x≤127:=Sq _ _
theorem and127 (n:Nat):Rv .and .i64 (n:Int) 127=((Dn n 127:Nat):Int):=by
 show IntKind.i64.wrap ((BitVec.ofInt 64 (n:Int) &&& BitVec.ofInt 64 ((127:Nat):Int)).toNat:Int)=_
 rw [BitVec.toNat_and,Jc,Jc]
 have h:=Sq n 127
 unfold Dn at *
 rw [Ed Bm]
def Gr (c:List Nat):Nat:=c.foldl (fun s w=>s+Ou w) 0
theorem nC (c:List Nat) (k:Nat) (h:k<c.length):Gr (c.take (k+1))=Gr (c.take k)+Ou c[k]:=by
 unfold Gr;rw [Aay,AaA h,Aap];rfl
theorem xC:∀ (c:List Nat),Gr c≤127*c.length:=by
 have key:∀ (c:List Nat) (s:Nat),c.foldl (fun s w=>s+Ou w) s≤s+127*c.length:=by
  intro c
  induction c with
  | nil=>simp
  | cons w t ih=>intro s;have:=ih (s+Ou w);have:=pZ w;simp only [Aao,AaZ];omega
 intro c;have:=key c 0;unfold Gr;omega
def Hp (c:List Nat) (x:UInt8):List Nat:=c.set (x.toNat / 64) (fA (c.getD (x.toNat / 64) 0) (2 ^ (x.toNat % 64)))
theorem jC (c:List Nat) (x:UInt8):(Hp c x).length=c.length:=by simp [Hp]
def Xb (l:List UInt8):List Nat:=l.foldl Hp [0,0,0,0]
theorem Hq (l:List UInt8):(Xb l).length=4:=by
 have key:∀ (l:List UInt8) (c:List Nat),(l.foldl Hp c).length=c.length:=by
  intro l
  induction l with
  | nil=>simp
  | cons x t ih=>intro c;rw [Aao,ih,jC]
 exact key l _
def Jw (c:List Nat):List Nat:=List.zipWith (fun x _=>Kr 18446744073709551615 x) c c
def Ef (a b:List Nat):List Nat:=List.zipWith Dn a b
def Df (a b:List Nat):List Nat:=List.zipWith fA a b
def Bv (c:List Nat) (x:UInt8):Bool:=decide (Dn (c.getD (x.toNat / 64) 0) (2 ^ (x.toNat % 64))≠0)
theorem fJ (c:List Nat) (k:Nat) (h:k<c.length):(c.map Bb)[k]?=some (Bb c[k]):=by
 rw [Aak,AaA h];rfl
theorem xD (op:Nat→Nat→Nat) (a b:List Nat) (k:Nat) (h:k<a.length) (h2:k<b.length) (h3:k<4) :
  (((List.zipWith op a b).take k++List.replicate (4-k) 0).map Bb).set k (Bb (op a[k] b[k]))=((List.zipWith op a b).take (k+1)++List.replicate (4-(k+1)) 0).map Bb:=by
 obtain ⟨j,hj⟩:∃ j,4-k=j+1:=⟨4-k-1,by omega⟩
 have hl:((List.zipWith op a b).take k).length=k:=by rw [Aag,Abw];omega
 rw [← Aad,AbM _ _ Bm,hl,Aaw,hj,show 4-(k+1)=j by omega,AbY,AcH,Aay,AaA (by rw [Abw];omega)]
 simp
theorem Dx (n:Nat):IntKind.u8.wrap (n:Int)=((UInt8.ofNat n).toNat:Int):=by
 rw [IntKind.wrap_u8];simp
theorem aD {c:List Nat} (h:c.length=4):(Jw c).length=4:=by unfold Jw;rw [Abw];omega
theorem Kw {a b:List Nat} (h:a.length=4) (h2:b.length=4):(Ef a b).length=4:=by unfold Ef;rw [Abw];omega
theorem Kx {a b:List Nat} (h:a.length=4) (h2:b.length=4):(Df a b).length=4:=by unfold Df;rw [Abw];omega
def Oc (i:Nat):Nat→Nat→List UInt8
 | 0,_=>[]
 | f+1,w=>if w=0 then [] else UInt8.ofNat (64*i+nA w)::Oc i f (Dn w (Im w 1))
def Ma:Nat→List Nat→List UInt8
 | _,[]=>[]
 | i,w::t=>Oc i w w++Ma (i+1) t
def Br (c:List Nat):List UInt8:=Ma 0 c
theorem Sr {w:Nat} (h0:w≠0) (h:w<W64):Im w 1=w-1:=by
 unfold Im
 show (w+(W64-1 % W64)) % W64=w-1
 rw [show w+(W64 - 1 % W64)=(w - 1)+W64 by unfold W64 at *;omega,Nat.add_mod_right,AaT Bm]
theorem tR {w j:Nat} (h0:w≠0) (hd:2 ^ j ∣ w):2 ^ (j+1) ∣ w &&& (w-1):=by
 rw [Nat.dvd_iff_mod_eq_zero,Nat.and_mod_two_pow]
 obtain ⟨m,rfl⟩:=hd
 have hp:0<2 ^ j:=AcU Lk
 rcases Nat.mod_two_eq_zero_or_one m with h | h
 ·obtain ⟨q,rfl⟩:∃ q,m=2*q:=⟨m / 2,by omega⟩
  rw [show 2 ^ j*(2*q)=2 ^ (j+1)*q by rw [Abm,Nat.mul_assoc],Nat.mul_mod_right,Nat.zero_and]
 ·obtain ⟨q,rfl⟩:∃ q,m=2*q+1:=⟨m / 2,by omega⟩
  have e1:2 ^ j*(2*q+1)=2 ^ (j+1)*q+2 ^ j:=by rw [Nat.mul_add,Abf,Abm,Nat.mul_assoc]
  have e2:2 ^ j*(2*q+1)-1=2 ^ (j+1)*q+(2 ^ j-1):=by rw [e1];omega
  have hlt:2 ^ j<2 ^ (j+1):=by rw [Abm];omega
  rw [e2,e1,Nat.mul_add_mod,Nat.mul_add_mod,AaT hlt,AaT (by omega:2 ^ j-1<2 ^ (j+1)),Nat.and_two_pow_sub_one_eq_mod,Nat.mod_self]
theorem jD (i:Nat):∀ (f w j:Nat),w<W64→j≤64→2 ^ j ∣ w→(Oc i f w).length≤64-j
 | 0,_,_,_,_,_=>by simp [Oc]
 | f+1,w,j,hw,hj,hd=>by
  rw [Oc]
  by_cases h0:w=0
  ·rw [if_pos h0];simp
  ·rw [if_neg h0,AaZ]
   have hj2:j≠64:=fun h=>by
    subst h
    have:=Nat.le_of_dvd (Nat.pos_of_ne_zero h0) hd
    unfold W64 at hw;omega
   have e:Dn w (Im w 1)=w &&& (w-1):=by
    rw [Sr h0 hw];unfold Dn;rw [AaT hw,AaT Bm]
   have:=jD i f (Dn w (Im w 1)) (j+1) (Gv _ _) Bm (by rw [e];exact tR h0 hd)
   omega
theorem aF:∀ (c:List Nat) (i:Nat),(∀ w∈c,w<W64)→(Ma i c).length≤64*c.length
 | [],_,_=>by simp [Ma]
 | w::t,i,h=>by
  have h1:=jD i w w 0 (h w Di) Bm Di
  have h2:=aF t (i+1) fun x hx=>h x pB
  simp only [Ma,AaB,AaZ];omega
theorem Qs {c:List Nat} (h:c.length=4) (hw:∀ w∈c,w<W64):(Br c).length≤256:=by
 have:=aF c 0 hw;unfold Br;omega
theorem xE {L rest:List UInt8} {n:Nat} {a:UInt8} (h:L.drop n=a::rest):∃ hn:n<L.length,L[n]=a∧L.drop (n+1)=rest:=by
 have hn:n<L.length:=by
  rcases AaM n L.length with h' | h'
  ·exact h'
  ·rw [AbU h'] at h;cases h
 rw [Aaq hn] at h
 injection h with h1 h2
 exact ⟨hn,h1,h2⟩
def Qh (G:Ah) (b:Nat) (c:List Nat):Prop:=∀ (i:Nat) (v:Value),(c.map Bb)[i]?=some v→Fc G ⟨b,i,none⟩=some v
theorem Qh.mono {G G':Ah} (h:G.le G') {b:Nat} {c:List Nat} (hc:Qh G b c):Qh G' b c:=fun i v hv=>Km h (hc i v hv)
theorem Qh.whole {G:Ah} {b:Nat} {c:List Nat} (hc:Qh G b c):∀ (j:Nat) (u:Value),(c.map Bb)[j]?=some u→Fc G ((⟨b,0,none⟩:Addr).add j)=some u:=fun j u hj=>by
 have hadd:((⟨b,0,none⟩:Addr).add j)=⟨b,j,none⟩:=by
  unfold Addr.add;split
  ·rename_i h0;simp [h0]
  ·simp
 rw [hadd];exact hc j u hj
theorem dO (i f:Nat):Oc i f 0=[]:=by cases f<;>simp [Oc]
structure Cy where
 cls:List (List Nat)
 next:List (List Nat)
 acc:List Bool
structure Tb where
 cell:List Nat
 cells:Nat
 next:List (List Nat)
 acc:List Bool
def Tb.to (t:Tb) (s c:Nat):Nat:=(t.next.getD s []).getD c 0
abbrev Rch:=List Bool×List Nat
def Jx (st:Rch) (x:Nat):Rch:=if st.1.getD x false=true then st else (st.1.set x true,st.2++[x])
def Ss (t:Tb):Nat→Nat→Rch→Option (List Nat)
 | 0,_,_=>none
 | f+1,i,st=>if i<st.2.length then Ss t f (i+1) ((t.next.getD (st.2.getD i 0) []).foldl Jx st) else some st.2
def Ul (t:Tb):Option (List Nat):=Ss t (t.next.length+1) 0 ((List.replicate t.next.length false).set 0 true,[0])
def two (x:Nat):List UInt8:=[UInt8.ofNat x,UInt8.ofNat (x / 256)]
def Hr (t:Tb) (b:List Nat) (s:Nat):List UInt8:=two (b.getD s 0)++(t.next.getD s []).flatMap fun x=>two (b.getD x 0)
structure Rf where
 keys:List (List UInt8)
 next:List Nat
 reps:List Nat
def Xc (t:Tb) (b:List Nat) (st:Rf) (s:Nat):Rf :=
 let k:=Hr t b s
 let i:=Bc k st.keys
 if i<st.keys.length then ⟨st.keys,st.next.set s i,st.reps⟩ else ⟨st.keys++[k],st.next.set s st.reps.length,st.reps++[s]⟩
def rfR (t:Tb) (l b:List Nat):Rf:=l.foldl (Xc t b) ⟨[],List.replicate b.length 0,[]⟩
def mD (t:Tb) (l:List Nat):Nat→List Nat→Nat→Option (List Nat×List Nat)
 | 0,_,_=>none
 | f+1,b,c=>let r:=rfR t l b;if r.reps.length=c then some (r.next,r.reps) else mD t l f r.next r.reps.length
def rfB (t:Tb) (l:List Nat):List Nat:=l.foldl (fun b s=>if t.acc.getD s false=true then b.set s 1 else b) (List.replicate t.next.length 0)
def Pq (t:Tb) (l:List Nat):Option (List Nat×List Nat):=mD t l (t.next.length+2) (rfB t l) 0
structure Mg where
 keys:List (List UInt8)
 cells:List Nat
 cls:List (List Nat)
 of:List Int
def Wd (t:Tb) (b r:List Nat) (c:Nat):List UInt8:=r.flatMap fun s=>two (b.getD (t.to s c) 0)
def nD (t:Tb) (b r:List Nat) (st:Mg) (c:Nat):Mg :=
 let k:=Wd t b r c
 let i:=Bc k st.keys
 if i<st.keys.length then { st with of:=st.of.set c (i:Int) } else ⟨st.keys++[k],st.cells++[c],st.cls++[[0,0,0,0]],st.of.set c (st.cells.length:Int)⟩
def mE (t:Tb) (b r:List Nat) (st:Mg) (x:Nat):Mg :=
 let c:=t.cell.getD x 0
 let st:=if st.of.getD c 0<0 then nD t b r st c else st
 let i:=(st.of.getD c 0).toNat
 { st with cls:=st.cls.set i (Df (st.cls.getD i []) (Xb [UInt8.ofNat x])) }
def Ky (t:Tb) (b r:List Nat):Mg:=(List.range 256).foldl (mE t b r) ⟨[],[],[],List.replicate t.cells (-1)⟩
structure Cn where
 place:List Int
 order:List Nat
 row:List Nat
def tS (t:Tb) (b:List Nat) (s:Nat) (st:Cn) (c:Nat):Cn :=
 let x:=b.getD (t.to s c) 0
 let st:=if st.place.getD x 0<0 then { st with place:=st.place.set x (st.order.length:Int),order:=st.order++[x] } else st
 { st with row:=st.row++[(st.place.getD x 0).toNat] }
def vX (t:Tb) (b r cells:List Nat):Nat→Nat→List Int→List Nat→List (List Nat)→List Bool→Option (List (List Nat)×List Bool)
 | 0,_,_,_,_,_=>none
 | f+1,i,pl,od,nx,ac =>
  if i<od.length then
   let s:=r.getD (od.getD i 0) 0
   let st:=cells.foldl (tS t b s) ⟨pl,od,[]⟩
   vX t b r cells f (i+1) st.place st.order (nx++[st.row]) (ac++[t.acc.getD s false])
  else some (nx,ac)
def Eu (t:Tb):Option Cy :=
 match Ul t with
 | none=>none
 | some l=>match Pq t l with
  | none=>none
  | some (b,r) =>
   let m:=Ky t b r
   match vX t b r m.cells (r.length+1) 0 ((List.replicate r.length (-1)).set (b.getD 0 0) 0) [b.getD 0 0] [] [] with
   | none=>none
   | some (nx,ac)=>some ⟨m.cls,nx,ac⟩
def Av (d:Cy):Tb:=⟨(d.cls.zipIdx).foldl (fun cell ci=>(Br ci.1).foldl (fun cell b=>cell.set b.toNat ci.2) cell) (List.replicate 256 0),d.cls.length,d.next,d.acc⟩
def clsOk:List (List Nat)→List Nat→Bool
 | [],seen=>decide (Jw seen=[0,0,0,0])
 | c::l,seen=>!(decide (c=[0,0,0,0])) && (decide (Ef seen c=[0,0,0,0]) && clsOk l (Df seen c))
def Mb (d:Cy):Bool :=
 decide (1≤d.next.length) && (decide (d.next.length≤64) && (decide (d.acc.length=d.next.length) && (decide (1≤d.cls.length) && (decide (d.cls.length≤256) && (clsOk d.cls [0,0,0,0] && d.next.all fun r=>decide (r.length=d.cls.length) && r.all fun x=>decide (x<d.next.length))))))
structure Jn where
 keys:List (Nat×Nat)
 cell:List Nat
 bytes:List Nat
def fK (a b:Tb) (st:Jn) (x:Nat):Jn :=
 let k:=(a.cell.getD x 0,b.cell.getD x 0)
 let i:=Bc k st.keys
 if i<st.keys.length then { st with cell:=st.cell++[i] } else ⟨st.keys++[k],st.cell++[st.bytes.length],st.bytes++[x]⟩
def Fv (a b:Tb):Jn:=(List.range 256).foldl (fK a b) ⟨[],[],[]⟩
structure Cs where
 p:Nat
 q:Nat
 s:Nat
deriving DecidableEq
structure Ex where
 l:List Cs
 row:List Nat
def mF (nx:Cs→Nat→Cs) (most:Nat) (s:Cs) (st:Option Ex) (b:Nat):Option Ex :=
 match st with
 | none=>none
 | some st =>
  let to:=nx s b
  let i:=Bc to st.l
  if i<st.l.length then some { st with row:=st.row++[i] } else if st.l.length=most then none else some ⟨st.l++[to],st.row++[st.l.length]⟩
def qA (bytes:List Nat) (nx:Cs→Nat→Cs) (ac:Cs→Bool) (most:Nat):Nat→Nat→List Cs→List (List Nat)→List Bool→Option (Option (List (List Nat)×List Bool))
 | 0,_,_,_,_=>none
 | f+1,i,l,next,acc =>
  match l[i]? with
  | none=>some (some (next,acc))
  | some s=>match bytes.foldl (mF nx most s) (some ⟨l,[]⟩) with
   | none=>some none
   | some st=>qA bytes nx ac most f (i+1) st.l (next++[st.row]) (acc++[ac s])
def tT (t:Tb):Option (Option Cy) :=
 match Eu t with
 | none=>none
 | some d=>if d.next.length≤64 then some (some d) else some none
def noC:List Nat:=[0,0,0,0]
def Cj (c:List Nat):Prop:=c.length=4∧∀ w∈c,w<W64
theorem Ei {c:List Nat} (h:c.length=4):∃ a b d e,c=[a,b,d,e]:=by
 match c,h with
 | [a,b,d,e],_=>exact ⟨a,b,d,e,rfl⟩
theorem Dp (c:List Nat) (x:UInt8):Bv c x=(c.getD (x.toNat / 64) 0 % W64).testBit (x.toNat % 64):=by
 have hs:x.toNat % 64<64:=Abz _ Lk
 have hlt:2 ^ (x.toNat % 64)<W64:=Nat.pow_lt_pow_right Lk hs
 unfold Bv Dn
 rw [AaT hlt]
 generalize c.getD (x.toNat / 64) 0 % W64=w
 generalize x.toNat % 64=k
 have hk:(w &&& 2 ^ k).testBit k=w.testBit k:=by rw [AcJ,Nat.testBit_two_pow_self,Bool.and_true]
 rw [← hk,AbG,decide_eq_true_eq]
 constructor
 ·intro hne
  obtain ⟨i,hi⟩:=Nat.exists_testBit_of_ne_zero hne
  have hi2:=hi
  rw [AcJ,Nat.testBit_two_pow,Aah,decide_eq_true_eq] at hi2
  obtain rfl:=hi2.2
  exact hi
 ·intro h hz
  rw [hz,Nat.zero_testBit] at h;cases h
theorem Xf {a b:List Nat} (ha:Cj a) (hb:Cj b) (h:∀ x,Bv a x=Bv b x):a=b:=by
 apply Abb (by rw [ha.1,hb.1])
 intro i h1 h2
 have hi:i<4:=by rw [← ha.1];exact h1
 apply Nat.eq_of_testBit_eq
 intro k
 have w1:=ha.2 a[i] (AaD h1)
 have w2:=hb.2 b[i] (AaD h2)
 rcases AaM k 64 with hk | hk
 ·have hx:=h (UInt8.ofNat (64*i+k))
  rw [Dp,Dp] at hx
  have e:(UInt8.ofNat (64*i+k)).toNat=64*i+k:=by rw [Aav];omega
  rw [e,show (64*i+k) / 64=i by omega,show (64*i+k) % 64=k by omega,AaH,AaH,AaA h1,AaA h2] at hx
  simp only [Option.getD_some] at hx
  rwa [AaT w1,AaT w2] at hx
 ·have hw:W64≤2 ^ k:=Nat.pow_le_pow_right (n:=2) Lk hk
  rw [Nat.testBit_lt_two_pow (AcD w1 hw),Nat.testBit_lt_two_pow (AcD w2 hw)]
theorem Ov:Cj noC:=⟨rfl,by decide⟩
theorem Lq (x:UInt8):Bv noC x=false:=by revert x;exact wX (by decide +kernel)
theorem set_lt {l:List Nat} {i v:Nat} (h:∀ x∈l,x<W64) (hv:v<W64):∀ x∈l.set i v,x<W64:=fun x hx=>by
 rcases AbB hx with h1 | h1
 ·exact h x h1
 ·omega
theorem addF_ok {c:List Nat} (h:Cj c) (x:UInt8):Cj (Hp c x):=⟨by rw [jC];exact h.1,set_lt h.2 (Pn _ _)⟩
theorem has_add {c:List Nat} (h:Cj c) (x z:UInt8):Bv (Hp c x) z=(Bv c z || decide (z=x)):=by
 have hx:=x.toNat_lt
 have hz:=z.toNat_lt
 have hl:=h.1
 rw [Dp,Dp]
 unfold Hp
 rw [AaH,List.getElem?_set]
 by_cases hd:x.toNat / 64=z.toNat / 64
 ·rw [if_pos hd,if_pos Bm,hd]
  simp only [Option.getD_some]
  have hlt:2 ^ (x.toNat % 64)<W64:=Nat.pow_lt_pow_right Lk (Abz _ Lk)
  rw [AaT (Pn _ _)]
  unfold fA
  rw [AaT hlt,Nat.testBit_or,Nat.testBit_two_pow]
  congr 1
  rw [AbG,decide_eq_true_eq,decide_eq_true_eq]
  constructor
  ·intro h2;exact AcI.1 Bm
  ·rintro rfl;rfl
 ·rw [if_neg hd]
  have:¬ z=x:=fun h2=>hd (by rw [h2])
  simp [this]
theorem qB:∀ (l:List UInt8) {c:List Nat},Cj c→Cj (l.foldl Hp c)
 | [],_,h=>h
 | x::t,_,h=>qB t (addF_ok h x)
theorem jE:∀ (l:List UInt8) {c:List Nat},Cj c→∀ z,Bv (l.foldl Hp c) z=(Bv c z || l.contains z)
 | [],_,_,z=>by simp
 | x::t,c,h,z=>by
  rw [Aao,jE t (addF_ok h x),has_add h,Bool.or_assoc,List.contains_cons]
  congr 2
theorem xF (l:List UInt8):Cj (Xb l):=qB l Ov
theorem has_of (l:List UInt8) (z:UInt8):Bv (Xb l) z=l.contains z:=by
 have:=jE l Ov z
 rw [Lq,Bool.false_or] at this
 exact this
def xG (c:List Nat):List UInt8:=((List.range 256).map UInt8.ofNat).filter (Bv c)
theorem tU:∀ w:Nat,w≠0→∃ j m,w=2 ^ j*(2*m+1):=by
 intro w
 induction w using Nat.strongRecOn with
 | ind w ih =>
  intro h
  rcases Nat.mod_two_eq_zero_or_one w with h2 | h2
  ·obtain ⟨j,m,e⟩:=ih (w / 2) Bm Bm
   refine ⟨j+1,m,?_⟩
   rw [Abm,AcB (2 ^ j) 2,Nat.mul_assoc,← e];omega
  ·exact ⟨0,w / 2,by rw [Nat.pow_zero,AcE];omega⟩
theorem Um (j m i:Nat):(2 ^ j*(2*m+1)).testBit i=if i<j then false else if i=j then true else m.testBit (i-j-1):=by
 rw [Nat.testBit_two_pow_mul]
 by_cases h:i<j
 ·rw [if_pos h];simp;omega
 ·rw [if_neg h]
  by_cases h2:i=j
  ·subst h2;rw [if_pos rfl];simp [Nat.testBit_zero,Nat.add_mod]
  ·rw [if_neg h2]
   obtain ⟨k,rfl⟩:∃ k,i=j+(k+1):=⟨i-j-1,by omega⟩
   rw [show j+(k+1)-j=k+1 by omega,Nat.testBit_succ,show (2*m+1) / 2=m by omega,show k+1-1=k by omega]
   simp
theorem fL (j m i:Nat):(2 ^ (j+1)*m).testBit i=if i<j+1 then false else m.testBit (i-j-1):=by
 rw [Nat.testBit_two_pow_mul]
 by_cases h:i<j+1
 ·rw [if_pos h];simp;omega
 ·rw [if_neg h,show i-(j+1)=i-j-1 by omega];simp;omega
theorem xH (j m:Nat):2 ^ j*(2*m+1) &&& (2 ^ j*(2*m+1)-1)=2 ^ (j+1)*m:=by
 have hp:0<2 ^ j:=AcU Lk
 apply Nat.eq_of_testBit_eq;intro i
 rw [AcJ,Um,fL]
 have e:2 ^ j*(2*m+1)-1=2 ^ j*(2*m)+(2 ^ j-1):=by rw [Nat.mul_add,Abf];omega
 rw [e,Nat.testBit_two_pow_mul_add (2*m) Bm i]
 by_cases h:i<j
 ·rw [if_pos h,if_pos h,if_pos Bm];rfl
 ·rw [if_neg h,if_neg h]
  by_cases h2:i=j
  ·subst h2;rw [if_pos rfl,if_pos Bm];simp [Nat.testBit_zero]
  ·rw [if_neg h2,if_neg Bm]
   obtain ⟨k,rfl⟩:∃ k,i=j+(k+1):=⟨i-j-1,by omega⟩
   rw [show j+(k+1)-j=k+1 by omega,Nat.testBit_succ,show (2*m) / 2=m by omega,show k+1-1=k by omega];simp
theorem tV (k m:Nat) (h:m<2 ^ k):m &&& (2 ^ k-(m+1))=0:=by
 apply Nat.eq_of_testBit_eq;intro i
 rw [AcJ,Nat.testBit_two_pow_sub_succ h,Nat.zero_testBit]
 cases m.testBit i<;>simp
theorem xI {w j m:Nat} (hw:w=2 ^ j*(2*m+1)) (hlt:w<W64):j<64∧Dn w (Im 0 w)=2 ^ j:=by
 have hp:0<2 ^ j:=AcU Lk
 have hj:j<64:=by
  rcases AaM j 64 with h' | h'
  ·exact h'
  ·have h1:2 ^ 64≤2 ^ j:=Nat.pow_le_pow_right Lk h'
   have h2:2 ^ j*1≤2 ^ j*(2*m+1):=Nat.mul_le_mul_left _ Bm
   unfold W64 at hlt;omega
 refine ⟨hj,?_⟩
 have h64:W64=2 ^ j*(2*2 ^ (63-j)):=by
  rw [show 2*2 ^ (63-j)=2 ^ (63-j+1) by rw [Abm,AcB],← Nat.pow_add,show j+(63-j+1)=64 by omega]
 have hm:m<2 ^ (63-j):=by
  rw [hw,h64] at hlt
  have:=Nat.lt_of_mul_lt_mul_left hlt;omega
 have hw0:0<w:=by rw [hw];exact Nat.mul_pos hp Bm
 have hs:Im 0 w=2 ^ j*(2*(2 ^ (63-j)-(m+1))+1):=by
  unfold Im
  rw [AaT hlt,Abr,AaT Bm,h64,hw,← Nat.mul_sub,show 2*2 ^ (63-j)-(2*m+1)=2*(2 ^ (63-j)-(m+1))+1 by omega]
 unfold Dn
 rw [AaT hlt,AaT (by unfold Im;exact Abz _ (by unfold W64;decide)),hs,hw]
 apply Nat.eq_of_testBit_eq;intro i
 rw [AcJ,Um,Um,Nat.testBit_two_pow]
 by_cases h:i<j
 ·rw [if_pos h];simp;omega
 ·rw [if_neg h,if_neg h]
  by_cases h2:i=j
  ·subst h2;simp
  ·rw [if_neg h2,if_neg h2,← AcJ,tV _ _ hm,Nat.zero_testBit];simp;omega
theorem tab_low:∀ j:Fin 64,tab64.getD (iM (2 ^ j.val) 285870213051353865 / 2 ^ 58) 0=j.val:=by decide +kernel
theorem tz_low {w j m:Nat} (hw:w=2 ^ j*(2*m+1)) (hlt:w<W64):nA w=j:=by
 obtain ⟨hj,he⟩:=xI hw hlt
 have h0:w≠0:=by rw [hw];exact Nat.pos_iff_ne_zero.1 (Nat.mul_pos (AcU Lk) Bm)
 unfold nA;rw [if_neg h0];unfold tzI;rw [he];exact tab_low ⟨j,hj⟩
theorem xJ {w j m:Nat} (hw:w=2 ^ j*(2*m+1)) (hlt:w<W64):Dn w (Im w 1)=2 ^ (j+1)*m:=by
 have h0:w≠0:=by rw [hw];exact Nat.pos_iff_ne_zero.1 (Nat.mul_pos (AcU Lk) Bm)
 rw [Sr h0 hlt];unfold Dn
 rw [AaT hlt,AaT Bm,hw,xH]
def We (w:Nat):List Nat:=(List.range 64).filter w.testBit
theorem tW {j n:Nat} (h:j<n):List.range n=List.range j++j::(List.range (n-j-1)).map (j+1+·):=by
 have e:List.range n=List.range (j+(1+(n-j-1))):=by congr 1;omega
 rw [e,List.range_add,List.range_add];simp
 intro a _;omega
theorem tX {w j m:Nat} (hw:w=2 ^ j*(2*m+1)) (hj:j<64):We w=j::We (2 ^ (j+1)*m):=by
 unfold We
 rw [tW hj,List.filter_append,List.filter_append,List.filter_cons,List.filter_cons,hw,Um,fL,if_neg (Nat.lt_irrefl j),if_pos rfl,if_pos rfl,if_pos (Nat.lt_succ_self j),if_neg Di]
 have h1:(List.range j).filter (2 ^ j*(2*m+1)).testBit=[]:=by
  rw [List.filter_eq_nil_iff];intro a ha
  rw [Um,if_pos (Aae.1 ha)];simp
 have h2:(List.range j).filter (2 ^ (j+1)*m).testBit=[]:=by
  rw [List.filter_eq_nil_iff];intro a ha
  have:=Aae.1 ha
  rw [fL,if_pos Bm];simp
 rw [h1,h2,AbA,AbA]
 congr 1
 apply List.filter_congr
 intro a ha
 obtain ⟨b,_,rfl⟩:=Aaf.1 ha
 rw [Um,fL,if_neg Bm,if_neg Bm,if_neg Bm]
theorem dP:We 0=[]:=by unfold We;rw [List.filter_eq_nil_iff];intro a _;simp
theorem Ml (i:Nat):∀ (f w:Nat),w≤f→w<W64→Oc i f w=(We w).map fun j=>UInt8.ofNat (64*i+j)
 | 0,w,h,_=>by
  obtain rfl:w=0:=by omega
  rw [dP];rfl
 | f+1,w,h,hlt=>by
  rw [Oc]
  by_cases h0:w=0
  ·subst h0;rw [if_pos rfl,dP];rfl
  ·obtain ⟨j,m,hw⟩:=tU w h0
   have hj:=(xI hw hlt).1
   have hp:0<2 ^ j:=AcU Lk
   have hle:2 ^ (j+1)*m<w:=by
    rw [hw,Abm,Nat.mul_add,Abf,Nat.mul_assoc];omega
   rw [if_neg h0,tz_low hw hlt,xJ hw hlt,Ml i f _ Bm Bm,tX hw hj];rfl
theorem nE:List.range 256=List.range 64++((List.range 64).map (64+·)++((List.range 64).map (128+·)++(List.range 64).map (192+·))):=by decide +kernel
theorem Pr {c:List Nat} {i w:Nat} (hi:i<4) (hc:c.getD i 0=w) (hw:w<W64):(((List.range 64).map (64*i+·)).map UInt8.ofNat).filter (Bv c)=(We w).map fun j=>UInt8.ofNat (64*i+j):=by
 unfold We
 rw [AbV,List.filter_map]
 congr 1
 apply List.filter_congr
 intro a ha
 have ha:=Aae.1 ha
 show Bv c (UInt8.ofNat (64*i+a))=w.testBit a
 have e:(UInt8.ofNat (64*i+a)).toNat=64*i+a:=by rw [Aav];omega
 rw [Dp,e,show (64*i+a) / 64=i by omega,show (64*i+a) % 64=a by omega,hc,AaT hw]
theorem nF {c:List Nat} (hc:Cj c):Br c=xG c:=by
 obtain ⟨a,b,d,e,rfl⟩:=Ei hc.1
 have hw:=hc.2
 unfold Br xG
 rw [nE,AaU,AaU,AaU,List.filter_append,List.filter_append,List.filter_append]
 have h0:=Pr (c:=[a,b,d,e]) (i:=0) (w:=a) Lk rfl (hw a Di)
 have h1:=Pr (c:=[a,b,d,e]) (i:=1) (w:=b) Lk rfl (hw b Di)
 have h2:=Pr (c:=[a,b,d,e]) (i:=2) (w:=d) Lk rfl (hw d Di)
 have h3:=Pr (c:=[a,b,d,e]) (i:=3) (w:=e) Lk rfl (hw e Di)
 have hz:(List.range 64).map (64*0+·)=List.range 64:=by simp
 rw [hz] at h0
 rw [h0]
 rw [show (List.range 64).map (64+·)=(List.range 64).map (64*1+·) from rfl,h1,show (List.range 64).map (128+·)=(List.range 64).map (64*2+·) from rfl,h2,show (List.range 64).map (192+·)=(List.range 64).map (64*3+·) from rfl,h3]
 show Oc 0 a a++(Oc 1 b b++(Oc 2 d d++(Oc 3 e e++[])))=_
 rw [Ml 0 a a (AaR _) (hw a Di),Ml 1 b b (AaR _) (hw b Di),Ml 2 d d (AaR _) (hw d Di),Ml 3 e e (AaR _) (hw e Di),AaX]
theorem Su {a b p q:Nat} (ha:a<256) (hp:p<256):(2 ^ 8*b+a) &&& (2 ^ 8*q+p)=2 ^ 8*(b &&& q)+(a &&& p):=by
 have hap:a &&& p<2 ^ 8:=Nat.lt_of_le_of_lt Nat.and_le_left ha
 apply Nat.eq_of_testBit_eq;intro i
 rw [AcJ,Nat.testBit_two_pow_mul_add b ha,Nat.testBit_two_pow_mul_add q hp,Nat.testBit_two_pow_mul_add (b &&& q) hap]
 split<;>rw [AcJ]
def qC (m:Nat):Nat→Nat
 | 0=>0
 | k+1=>2 ^ 8*qC m k+m
def Ea:List Nat→Nat
 | []=>0
 | a::t=>2 ^ 8*Ea t+a
def g1 (a:Nat):Nat:=(a / 2 &&& 85)+(a &&& 85)
def g2 (a:Nat):Nat:=(a / 4 &&& 51)+(a &&& 51)
def g3 (a:Nat):Nat:=(a / 16+a) &&& 15
theorem m1:∀ (a:Fin 256) (r:Fin 2),(a.val / 2+128*r.val) &&& 85=a.val / 2 &&& 85:=by decide +kernel
theorem m2:∀ (a:Fin 256) (r:Fin 4),(a.val / 4+64*r.val) &&& 51=a.val / 4 &&& 51:=by decide +kernel
theorem xK:∀ l:List Nat,(∀ a∈l,a<256)→(Ea l / 2 &&& qC 85 l.length)+(Ea l &&& qC 85 l.length)=Ea (l.map g1)
 | [],_=>rfl
 | a::t,h=>by
  have ha:=h a Di
  have ih:=xK t (fun x hx=>h x pB)
  show ((2 ^ 8*Ea t+a) / 2 &&& (2 ^ 8*qC 85 t.length+85))+((2 ^ 8*Ea t+a) &&& (2 ^ 8*qC 85 t.length+85))=2 ^ 8*Ea (t.map g1)+g1 a
  have e:(2 ^ 8*Ea t+a) / 2=2 ^ 8*(Ea t / 2)+(a / 2+128*(Ea t % 2)):=by omega
  have hm:=m1 ⟨a,ha⟩ ⟨Ea t % 2,by omega⟩
  dsimp only at hm
  rw [e,Su Bm Lk,Su ha Lk,hm,← ih];unfold g1;omega
theorem xL:∀ l:List Nat,(∀ a∈l,a<256)→(Ea l / 4 &&& qC 51 l.length)+(Ea l &&& qC 51 l.length)=Ea (l.map g2)
 | [],_=>rfl
 | a::t,h=>by
  have ha:=h a Di
  have ih:=xL t (fun x hx=>h x pB)
  show ((2 ^ 8*Ea t+a) / 4 &&& (2 ^ 8*qC 51 t.length+51))+((2 ^ 8*Ea t+a) &&& (2 ^ 8*qC 51 t.length+51))=2 ^ 8*Ea (t.map g2)+g2 a
  have e:(2 ^ 8*Ea t+a) / 4=2 ^ 8*(Ea t / 4)+(a / 4+64*(Ea t % 4)):=by omega
  have hm:=m2 ⟨a,ha⟩ ⟨Ea t % 4,by omega⟩
  dsimp only at hm
  rw [e,Su Bm Lk,Su ha Lk,hm,← ih];unfold g2;omega
theorem val_mod:∀ l:List Nat,(∀ a∈l,a % 16≤4)→Ea l % 16≤4
 | [],_=>by decide
 | a::t,h=>by have:=h a Di;show (2 ^ 8*Ea t+a) % 16≤4;omega
theorem xM:∀ l:List Nat,(∀ a∈l,a≤68∧a % 16≤4)→(Ea l / 16+Ea l) &&& qC 15 l.length=Ea (l.map g3)
 | [],_=>rfl
 | a::t,h=>by
  have ha:=h a Di
  have ih:=xM t (fun x hx=>h x pB)
  have hmod:=val_mod t (fun x hx=>(h x pB).2)
  show ((2 ^ 8*Ea t+a) / 16+(2 ^ 8*Ea t+a)) &&& (2 ^ 8*qC 15 t.length+15)=2 ^ 8*Ea (t.map g3)+g3 a
  have e:(2 ^ 8*Ea t+a) / 16+(2 ^ 8*Ea t+a)=2 ^ 8*(Ea t / 16+Ea t)+(a / 16+16*(Ea t % 16)+a):=by omega
  rw [e,Su Bm Lk,ih]
  congr 1
  unfold g3
  rw [show (15:Nat)=2 ^ 4-1 from rfl,Nat.and_two_pow_sub_one_eq_mod,Nat.and_two_pow_sub_one_eq_mod];omega
def xN (a:Nat):Nat:=g3 (g2 (g1 a))
theorem aG:∀ a:Fin 256,g1 a.val<256∧g2 (g1 a.val)≤68∧g2 (g1 a.val) % 16≤4∧xN a.val≤8∧(xN a.val=0→a.val=0):=by decide +kernel
theorem tY (x:Nat) (h:x<2 ^ 64):∃ l:List Nat,l.length=8∧(∀ a∈l,a<256)∧Ea l=x:=by
 refine ⟨[x % 256,x / 256 % 256,x / 256 ^ 2 % 256,x / 256 ^ 3 % 256,x / 256 ^ 4 % 256,x / 256 ^ 5 % 256,x / 256 ^ 6 % 256,x / 256 ^ 7 % 256],rfl,?_,?_⟩
 ·intro a ha
  simp only [AaV,AbI,or_false] at ha
  rcases ha with rfl | rfl | rfl | rfl | rfl | rfl | rfl | rfl<;>exact Abz _ Lk
 ·simp only [Ea];omega
theorem aH {k a b:Nat} (h:a<2 ^ k) (hb:a+2 ^ k*b+b<W64):Kv k (a+2 ^ k*b)=a+2 ^ k*b+b:=by
 unfold Kv Nv;rw [Nat.add_mul_div_left _ _ (AcU Lk),AbS h,Abr,AaT hb]
theorem pop_top {u0 u1:Nat} (h0:u0<2 ^ 32) (h1:u1<2 ^ 30):Dn (Kv 32 (u0+2 ^ 32*u1)) 127=(u0+u1) % 128:=by
 have hW:W64=18446744073709551616:=rfl
 have hb:u0+2 ^ 32*u1+u1<W64:=by rw [hW];omega
 rw [aH h0 hb];unfold Dn
 rw [AaT hb,AaT (show 127<W64 by decide),show (127:Nat)=2 ^ 7-1 from rfl,Nat.and_two_pow_sub_one_eq_mod];omega
theorem pop_mid {w0 w1 w2 w3:Nat} (h0:w0<2 ^ 13) (h1:w1<2 ^ 13) (h2:w2<2 ^ 13) (h3:w3<2 ^ 13):Dn (Kv 32 (Kv 16 (w0+2 ^ 16*(w1+2 ^ 16*(w2+2 ^ 16*w3))))) 127=(w0+w1+w2+w3) % 128:=by
 have hW:W64=18446744073709551616:=rfl
 rw [aH Bm (by rw [hW];omega)]
 have e:w0+2 ^ 16*(w1+2 ^ 16*(w2+2 ^ 16*w3))+(w1+2 ^ 16*(w2+2 ^ 16*w3))=(w0+w1+2 ^ 16*(w1+w2))+2 ^ 32*(w2+w3+2 ^ 16*w3):=by omega
 rw [e,pop_top Bm Bm];omega
theorem pop_sum {p0 p1 p2 p3 p4 p5 p6 p7:Nat} (q0:p0≤8) (q1:p1≤8) (q2:p2≤8) (q3:p3≤8) (q4:p4≤8) (q5:p5≤8) (q6:p6≤8) (q7:p7≤8) :
  Dn (Kv 32 (Kv 16 (Kv 8 (2 ^ 8*(2 ^ 8*(2 ^ 8*(2 ^ 8*(2 ^ 8*(2 ^ 8*(2 ^ 8*(2 ^ 8*0+p7)+p6)+p5)+p4)+p3)+p2)+p1)+p0)))) 127=p0+p1+p2+p3+p4+p5+p6+p7:=by
 have hW:W64=18446744073709551616:=rfl
 obtain ⟨Y,hY⟩:∃ Y,Y=2 ^ 8*(2 ^ 8*(2 ^ 8*(2 ^ 8*(2 ^ 8*(2 ^ 8*(2 ^ 8*0+p7)+p6)+p5)+p4)+p3)+p2)+p1:=⟨_,rfl⟩
 rw [← hY,Nat.add_comm (2 ^ 8*Y) p0,aH Bm (by rw [hW];omega)]
 have e:p0+2 ^ 8*Y+Y=(p0+p1+2 ^ 8*(p1+p2))+2 ^ 16*((p2+p3+2 ^ 8*(p3+p4))+2 ^ 16*((p4+p5+2 ^ 8*(p5+p6))+2 ^ 16*(p6+p7+2 ^ 8*p7))):=by omega
 rw [e,pop_mid Bm Bm Bm Bm];omega
theorem Sv {x:Nat} (h:x<W64) (h0:Ou x=0):x=0:=by
 obtain ⟨l,hl,hb,rfl⟩:=tY x h
 have hW:W64=2 ^ 64:=rfl
 have k1:qC 85 8=6148914691236517205:=by decide
 have k2:qC 51 8=3689348814741910323:=by decide
 have k3:qC 15 8=1085102592571150095:=by decide
 have e1:tP (Ea l)=Ea (l.map g1):=by
  unfold tP Dn Nv
  rw [AaT (show Ea l / 2 ^ 1<W64 by omega),AaT h,AaT (show 6148914691236517205<W64 by decide)]
  have a1:(Ea l / 2 ^ 1 &&& 6148914691236517205)≤6148914691236517205:=Nat.and_le_right
  have a2:(Ea l &&& 6148914691236517205)≤6148914691236517205:=Nat.and_le_right
  rw [AaT Bm,← xK l hb,hl,k1]
 have b1:∀ a∈l.map g1,a<256:=fun a ha=>by obtain ⟨c,hc,rfl⟩:=Aaf.1 ha;exact (aG ⟨c,hb c hc⟩).1
 have v1:Ea (l.map g1)<W64:=by rw [← e1];unfold tP Nv;exact Abz _ Lk
 have e2:tQ (Ea (l.map g1))=Ea ((l.map g1).map g2):=by
  unfold tQ Dn Nv
  rw [AaT (show Ea (l.map g1) / 2 ^ 2<W64 by omega),AaT v1,AaT (show 3689348814741910323<W64 by decide)]
  have a1:(Ea (l.map g1) / 2 ^ 2 &&& 3689348814741910323)≤3689348814741910323:=Nat.and_le_right
  have a2:(Ea (l.map g1) &&& 3689348814741910323)≤3689348814741910323:=Nat.and_le_right
  rw [AaT Bm,← xL _ b1,AaC,hl,k2]
 have b2:∀ a∈(l.map g1).map g2,a≤68∧a % 16≤4:=fun a ha=>by
  rw [AbV] at ha;obtain ⟨c,hc,rfl⟩:=Aaf.1 ha;exact ⟨(aG ⟨c,hb c hc⟩).2.1,(aG ⟨c,hb c hc⟩).2.2.1⟩
 have v2:Ea ((l.map g1).map g2)≤7378697629483820646:=by
  rw [← e2];unfold tQ Nv Dn
  have a1:(Ea (l.map g1) / 2 ^ 2 % W64 &&& 3689348814741910323 % W64)≤3689348814741910323:=Aai Nat.and_le_right (Nat.mod_le _ _)
  have a2:(Ea (l.map g1) % W64 &&& 3689348814741910323 % W64)≤3689348814741910323:=Aai Nat.and_le_right (Nat.mod_le _ _)
  have:=Nat.mod_le ((Ea (l.map g1) / 2 ^ 2 % W64 &&& 3689348814741910323 % W64)+(Ea (l.map g1) % W64 &&& 3689348814741910323 % W64)) W64
  omega
 have e3:xB (Ea ((l.map g1).map g2))=Ea (((l.map g1).map g2).map g3):=by
  unfold xB Dn Nv
  rw [AaT (show 1085102592571150095<W64 by decide),AaT (show (Ea ((l.map g1).map g2) / 2 ^ 4+Ea ((l.map g1).map g2)) % W64<W64 from Abz _ Lk),AaT Bm,← k3]
  have:=xM _ b2
  rw [AaC,AaC,hl] at this
  exact this
 unfold Ou nB at h0
 rw [e1,e2,e3,AbV,AbV] at h0
 rw [show (g3 ∘ g2) ∘ g1=xN from rfl] at h0
 obtain ⟨c0,c1,c2,c3,c4,c5,c6,c7,rfl⟩:∃ c0 c1 c2 c3 c4 c5 c6 c7,l=[c0,c1,c2,c3,c4,c5,c6,c7]:=by
  match l,hl with
  | [c0,c1,c2,c3,c4,c5,c6,c7],_=>exact ⟨c0,c1,c2,c3,c4,c5,c6,c7,rfl⟩
 have q0:=(aG ⟨c0,hb c0 Di⟩).2.2.2;have q1:=(aG ⟨c1,hb c1 Di⟩).2.2.2;have q2:=(aG ⟨c2,hb c2 Di⟩).2.2.2;have q3:=(aG ⟨c3,hb c3 Di⟩).2.2.2
 have q4:=(aG ⟨c4,hb c4 Di⟩).2.2.2;have q5:=(aG ⟨c5,hb c5 Di⟩).2.2.2;have q6:=(aG ⟨c6,hb c6 Di⟩).2.2.2;have q7:=(aG ⟨c7,hb c7 Di⟩).2.2.2
 dsimp only at q0 q1 q2 q3 q4 q5 q6 q7
 simp only [Aar,List.map_nil,Ea] at h0 ⊢
 obtain ⟨q0,z0⟩:=q0;obtain ⟨q1,z1⟩:=q1;obtain ⟨q2,z2⟩:=q2;obtain ⟨q3,z3⟩:=q3;obtain ⟨q4,z4⟩:=q4;obtain ⟨q5,z5⟩:=q5;obtain ⟨q6,z6⟩:=q6;obtain ⟨q7,z7⟩:=q7
 generalize xN c0=p0 at *;generalize xN c1=p1 at *;generalize xN c2=p2 at *;generalize xN c3=p3 at *;generalize xN c4=p4 at *;generalize xN c5=p5 at *;generalize xN c6=p6 at *;generalize xN c7=p7 at *
 rw [pop_sum q0 q1 q2 q3 q4 q5 q6 q7] at h0
 have:=z0 Bm;have:=z1 Bm;have:=z2 Bm;have:=z3 Bm;have:=z4 Bm;have:=z5 Bm;have:=z6 Bm;have:=z7 Bm
 omega
theorem tZ {c:List Nat} (h:Cj c) (h0:Gr c=0):c=noC:=by
 obtain ⟨a,b,d,e,rfl⟩:=Ei h.1
 have hw:=h.2
 have hs:Ou a+Ou b+Ou d+Ou e=0:=by
  have:Gr [a,b,d,e]=0+Ou a+Ou b+Ou d+Ou e:=rfl
  omega
 have:=Sv (hw a Di) Bm;have:=Sv (hw b Di) Bm;have:=Sv (hw d Di) Bm;have:=Sv (hw e Di) Bm
 subst_vars;rfl
namespace Cn7
theorem gD {α:Type} {l:List α} {i:Nat} {d:α} (h:i<l.length):l.getD i d=l[i]:=by rw [AaH,AaA h];rfl
theorem gD_le {α:Type} {l:List α} {i:Nat} {d:α} (h:l.length≤i):l.getD i d=d:=by rw [AaH,AaL h];rfl
theorem gD_some {α:Type} {l:List α} {i:Nat} {d x:α} (h:l[i]?=some x):l.getD i d=x:=by rw [AaH,h];rfl
theorem Ey {α:Type} {l:List α} {i j:Nat} {d x:α} (h:i<l.length):(l.set i x).getD j d=if j=i then x else l.getD j d:=by
 rw [AaH,List.getElem?_set,AaH]
 by_cases e:i=j
 ·subst e;rw [if_pos rfl,if_pos h,if_pos rfl];rfl
 ·rw [if_neg e,if_neg (fun h=>e h.symm)]
theorem Ng:∀ {l m:List Nat},l.Nodup→(∀ x∈l,x∈m)→l.length≤m.length
 | [],_,_,_=>by simp
 | x::l,m,hn,hs=>by
  have hn':=AbT.1 hn
  have hx:=hs x AaK
  have ih:=Ng (l:=l) (m:=m.erase x) hn'.2 fun y hy=>(List.mem_erase_of_ne (fun e=>hn'.1 (by rw [← e];exact hy))).2 (hs y (AaG _ hy))
  rw [List.length_erase_of_mem hx] at ih
  have:=List.length_pos_of_mem hx
  rw [AaZ];omega
theorem len_le {l:List Nat} {n:Nat} (hn:l.Nodup) (h:∀ x∈l,x<n):l.length≤n:=by
 have:=Ng (m:=List.range n) hn fun x hx=>Aae.2 (h x hx)
 rwa [AaO] at this
theorem xO {L:List Nat} {n:Nat} (hL:L.length=n) (h:∀ k,k<n→k∈L) {i j:Nat} (hi:i<L.length) (hj:j<L.length) (e:L[i]=L[j]):i=j:=by
 rcases Nat.decEq i j with hij | hij
 ·exfalso
  have h2:=Ng (l:=List.range n) (m:=L.eraseIdx j) List.nodup_range fun k hk=>by
   obtain ⟨m,hm,rfl⟩:=AaQ.1 (h k (Aae.1 hk))
   rw [List.mem_eraseIdx_iff_getElem]
   rcases Nat.decEq m j with h3 | h3
   ·exact ⟨m,hm,h3,rfl⟩
   ·subst h3;exact ⟨i,hi,hij,e⟩
  rw [AaO,List.length_eraseIdx,if_pos hj] at h2
  omega
 ·exact hij
def gc (t:Tb) (s:Nat) (w:List Nat):Nat:=w.foldl t.to s
def CW (t:Tb) (w:List Nat):Prop:=∀ c∈w,c<t.cells
structure TOk (t:Tb):Prop where
 n1:1≤t.next.length
 n2:t.next.length≤60000
 al:t.acc.length=t.next.length
 cl:t.cell.length=256
 cc:t.cells≤256
 row:∀ r∈t.next,r.length=t.cells∧∀ x∈r,x<t.next.length
 cell:∀ c∈t.cell,c<t.cells
 full:∀ c,c<t.cells→∃ b,b<256∧t.cell.getD b 0=c
theorem TOk.rowAt {t:Tb} (h:TOk t) {s:Nat} (hs:s<t.next.length):(t.next.getD s []).length=t.cells∧∀ x∈t.next.getD s [],x<t.next.length:=by
 rw [gD hs];exact h.row _ (AaD _)
theorem TOk.to_lt {t:Tb} (h:TOk t) {s c:Nat} (hs:s<t.next.length) (hc:c<t.cells):t.to s c<t.next.length:=by
 have hr:=h.rowAt hs
 unfold Tb.to;rw [gD (l:=t.next.getD s []) (by rw [hr.1];exact hc)]
 exact hr.2 _ (AaD _)
theorem TOk.to_mem {t:Tb} (h:TOk t) {s c:Nat} (hs:s<t.next.length) (hc:c<t.cells):t.to s c∈t.next.getD s []:=by
 have hr:=h.rowAt hs
 unfold Tb.to;rw [gD (l:=t.next.getD s []) (by rw [hr.1];exact hc)]
 exact AaD _
theorem TOk.mem_to {t:Tb} (h:TOk t) {s x:Nat} (hs:s<t.next.length) (hx:x∈t.next.getD s []):∃ c,c<t.cells∧t.to s c=x:=by
 have hr:=h.rowAt hs
 obtain ⟨c,hc,rfl⟩:=AaQ.1 hx
 exact ⟨c,hr.1▸hc,by unfold Tb.to;rw [gD (l:=t.next.getD s []) hc]⟩
theorem TOk.cellAt {t:Tb} (h:TOk t) {b:Nat} (hb:b<256):t.cell.getD b 0<t.cells:=by
 rw [gD (by rw [h.cl];exact hb)];exact h.cell _ (AaD _)
theorem gc_app {t:Tb} {s:Nat} (u w:List Nat):gc t s (u++w)=gc t (gc t s u) w:=Aap
structure aI (t:Tb) (i:Nat) (seen:List Bool) (l:List Nat):Prop where
 sl:seen.length=t.next.length
 nd:l.Nodup
 lt:∀ x∈l,x<t.next.length
 sn:∀ x,x<t.next.length→(seen.getD x false=true↔x∈l)
 hd:l[0]?=some 0
 il:i≤l.length
 cl:∀ j,j<i→∀ s,l[j]?=some s→∀ x∈t.next.getD s [],x∈l
 rc:∀ x∈l,∃ w,CW t w∧gc t 0 w=x
theorem rch_one {t:Tb} (ht:TOk t) {i s x:Nat} {seen:List Bool} {l:List Nat} (h:aI t i seen l) (hs:s∈l) (hx:x∈t.next.getD s []) :
  aI t i (Jx (seen,l) x).1 (Jx (seen,l) x).2∧(∃ m,(Jx (seen,l) x).2=l++m)∧x∈(Jx (seen,l) x).2:=by
 have hxn:x<t.next.length:=(ht.rowAt (h.lt s hs)).2 x hx
 unfold Jx
 by_cases hb:seen.getD x false=true
 ·rw [if_pos hb];exact ⟨h,⟨[],by simp⟩,(h.sn x hxn).1 hb⟩
 ·rw [if_neg hb]
  have hno:x∉l:=fun hm=>hb ((h.sn x hxn).2 hm)
  refine ⟨⟨by rw [AaP];exact h.sl,?_,?_,?_,?_,?_,?_,?_⟩,⟨[x],rfl⟩,by simp⟩
  ·rw [AbQ]
   exact ⟨h.nd,by simp,fun a ha b hb e=>hno Z35⟩
  ·intro y hy
   rcases AaS.1 hy with hy | hy
   ·exact h.lt y hy
   ·rw [AaE.1 hy];exact hxn
  ·intro y hy
   rw [Ey (by rw [h.sl];exact hxn)]
   by_cases e:y=x
   ·subst e;simp
   ·rw [if_neg e,h.sn y hy,AaS,AaE]
    exact ⟨Or.inl,fun h=>h.resolve_right e⟩
  ·have h0:=h.hd
   cases l with
   | nil=>cases h0
   | cons a l=>exact h0
  ·have:=h.il;simp only [AaB];omega
  ·intro j hj s' hs' y hy
   have hjl:j<l.length:=by have:=h.il;omega
   rw [AaN hjl] at hs'
   exact AaY _ (h.cl j hj s' hs' y hy)
  ·intro y hy
   rcases AaS.1 hy with hy | hy
   ·exact h.rc y hy
   ·rw [AaE.1 hy]
    obtain ⟨w,hw,he⟩:=h.rc s hs
    obtain ⟨c,hc,hcx⟩:=ht.mem_to (h.lt s hs) hx
    refine ⟨w++[c],fun d hd=>?_,by rw [gc_app,he];exact hcx⟩
    rcases AaS.1 hd with hd | hd
    ·exact hw d hd
    ·rw [AaE.1 hd];exact hc
theorem jF {t:Tb} (ht:TOk t) {i s:Nat}:∀ (xs:List Nat) {seen:List Bool} {l:List Nat},aI t i seen l→s∈l→(∀ x∈xs,x∈t.next.getD s []) →
  aI t i (xs.foldl Jx (seen,l)).1 (xs.foldl Jx (seen,l)).2∧(∃ m,(xs.foldl Jx (seen,l)).2=l++m)∧∀ x∈xs,x∈(xs.foldl Jx (seen,l)).2
 | [],seen,l,h,_,_=>⟨h,⟨[],by simp⟩,fun x hx=>by cases hx⟩
 | x::xs,seen,l,h,hs,hx=>by
  obtain ⟨h1,⟨m1,e1⟩,h3⟩:=rch_one ht h hs (hx x AaK)
  obtain ⟨h4,⟨m2,e2⟩,h6⟩:=jF ht (i:=i) (s:=s) xs h1 (by rw [e1];exact AaY _ hs) fun y hy=>hx y (AaG _ hy)
  rw [Aao]
  refine ⟨h4,⟨m1++m2,by rw [← AaI,← e1];exact e2⟩,fun y hy=>?_⟩
  rcases AaV.1 hy with rfl | hy
  ·have e2':(xs.foldl Jx (Jx (seen,l) y)).2=(Jx (seen,l) y).2++m2:=e2
   rw [e2'];exact AaY _ h3
  ·exact h6 y hy
theorem qD {t:Tb} (ht:TOk t):∀ (f i:Nat) {seen:List Bool} {l:List Nat},aI t i seen l→t.next.length<f+i→∃ L sn,Ss t f i (seen,l)=some L∧aI t L.length sn L
 | 0,i,seen,l,h,hf=>by
  have h1:=h.il;have h2:=len_le h.nd h.lt;omega
 | f+1,i,seen,l,h,hf=>by
  rw [Ss]
  by_cases hi:i<l.length
  ·rw [if_pos hi]
   have hil:l.getD i 0=l[i]:=gD hi
   have hmem:l[i]∈l:=AaD _
   obtain ⟨h1,⟨m,e⟩,h3⟩:=jF ht (i:=i) (s:=l[i]) (t.next.getD l[i] []) h hmem fun x hx=>hx
   show ∃ L sn,Ss t f (i+1) ((t.next.getD (l.getD i 0) []).foldl Jx (seen,l))=some L∧_
   rw [hil]
   refine qD ht f (i+1) ⟨h1.sl,h1.nd,h1.lt,h1.sn,h1.hd,by rw [e,AaB];omega,?_,h1.rc⟩ Bm
   intro j hj s hs x hx
   rcases AaM j i with hji | hji
   ·exact h1.cl j hji s hs x hx
   ·have hji':j=i:=by omega
    subst hji'
    rw [e,AaN hi,AaA hi] at hs
    injection hs with hs;subst hs
    exact h3 x hx
  ·rw [if_neg hi]
   have hii:i=l.length:=by have:=h.il;omega
   subst hii
   exact ⟨l,seen,rfl,h⟩
structure Rd (t:Tb) (L:List Nat):Prop where
 nd:L.Nodup
 lt:∀ x∈L,x<t.next.length
 z:0∈L
 cl:∀ s∈L,∀ c,c<t.cells→t.to s c∈L
 rc:∀ x∈L,∃ w,CW t w∧gc t 0 w=x
theorem xP {t:Tb} (ht:TOk t):∃ L,Ul t=some L∧Rd t L:=by
 have h1:=ht.n1
 have h0:aI t 0 ((List.replicate t.next.length false).set 0 true) [0]:=by
  refine ⟨by simp,by simp,fun x hx=>by rw [AaE.1 hx];omega,fun x hx=>?_,rfl,by simp,fun j hj=>by omega,fun x hx=>⟨[],(fun c hc=>by cases hc),(AaE.1 hx).symm⟩⟩
  rw [Ey (by rw [AaJ];omega),AaE]
  by_cases e:x=0
  ·rw [if_pos e];simp [e]
  ·rw [if_neg e,gD (by rw [AaJ];exact hx),AcM]
   exact ⟨(fun h=>by cases h),fun h=>absurd h e⟩
 obtain ⟨L,sn,e,h⟩:=qD ht (t.next.length+1) 0 h0 Bm
 refine ⟨L,e,h.nd,h.lt,AaF h.hd,fun s hs c hc=>?_,h.rc⟩
 obtain ⟨j,hj,hjs⟩:=AaQ.1 hs
 exact h.cl j hj s (by rw [AaA hj,hjs]) _ (ht.to_mem (h.lt s hs) hc)
theorem Rd.gc {t:Tb} {L:List Nat} (h:Rd t L):∀ (w:List Nat) {s:Nat},s∈L→CW t w→gc t s w∈L
 | [],_,hs,_=>hs
 | c::w,s,hs,hw=>h.gc w (s:=t.to s c) (h.cl s hs c (hw c AaK)) fun d hd=>hw d (AaG _ hd)
end Cn7
namespace Cn7
def la (t:Tb) (s:Nat) (w:List Nat):Bool:=t.acc.getD (gc t s w) false
structure Clo (t:Tb) (L:List Nat):Prop where
 nd:L.Nodup
 lt:∀ x∈L,x<t.next.length
 z:0∈L
 cl:∀ s∈L,∀ c,c<t.cells→t.to s c∈L
theorem Rd.clo {t:Tb} {L:List Nat} (h:Rd t L):Clo t L:=⟨h.nd,h.lt,h.z,h.cl⟩
theorem clo_all {t:Tb} (ht:TOk t):Clo t (List.range t.next.length) :=
 ⟨List.nodup_range,fun x hx=>Aae.1 hx,Aae.2 (by have:=ht.n1;omega),fun s hs c hc=>Aae.2 (ht.to_lt (Aae.1 hs) hc)⟩
theorem nG {x y:Nat} (h:UInt8.ofNat x=UInt8.ofNat y):x % 256=y % 256:=by
 have h2:=congrArg UInt8.toNat h
 simpa using h2
theorem fM {x y:Nat} (hx:x<65536) (hy:y<65536) (h:two x=two y):x=y:=by
 unfold two at h
 simp only [List.cons.injEq,and_true] at h
 have h1:=nG h.1
 have h2:=nG h.2
 omega
theorem jG {b:List Nat}:∀ {r r':List Nat},(∀ x∈r,b.getD x 0<65536)→(∀ x∈r',b.getD x 0<65536)→r.length=r'.length →
  (r.flatMap (fun x=>two (b.getD x 0))=r'.flatMap fun x=>two (b.getD x 0))→∀ i:Nat,b.getD (r.getD i 0) 0=b.getD (r'.getD i 0) 0
 | [],[],_,_,_,_,i=>rfl
 | x::r,y::r',h1,h2,hl,he,i=>by
  rw [Aan,Aan] at he
  have ha:=List.append_inj he rfl
  have hxy:=fM (h1 x AaK) (h2 y AaK) ha.1
  cases i with
  | zero=>exact hxy
  | succ i=>exact jG (fun z hz=>h1 z (AaG _ hz)) (fun z hz=>h2 z (AaG _ hz)) (by simpa using hl) ha.2 i
theorem aJ {b:List Nat}:∀ {r r':List Nat},r.length=r'.length→(∀ i:Nat,i<r.length→b.getD (r.getD i 0) 0=b.getD (r'.getD i 0) 0) →
  (r.flatMap (fun x=>two (b.getD x 0))=r'.flatMap fun x=>two (b.getD x 0))
 | [],[],_,_=>rfl
 | x::r,y::r',hl,h=>by
  rw [Aan,Aan]
  have h0:b.getD x 0=b.getD y 0:=h 0 Di
  rw [h0,aJ (by simpa using hl) fun i hi=>h (i+1) (by simpa using hi)]
def qE (b L:List Nat):Prop:=∀ s∈L,b.getD s 0<65536
theorem key_iff {t:Tb} {L b:List Nat} (ht:TOk t) (hc:Clo t L) (hb:qE b L) {s s':Nat} (hs:s∈L) (hs':s'∈L) :
  Hr t b s=Hr t b s'↔b.getD s 0=b.getD s' 0∧∀ c,c<t.cells→b.getD (t.to s c) 0=b.getD (t.to s' c) 0:=by
 have r1:=ht.rowAt (hc.lt s hs);have r2:=ht.rowAt (hc.lt s' hs')
 have m1:∀ x∈t.next.getD s [],b.getD x 0<65536:=fun x hx=>by
  obtain ⟨c,h,rfl⟩:=ht.mem_to (hc.lt s hs) hx;exact hb _ (hc.cl s hs c h)
 have m2:∀ x∈t.next.getD s' [],b.getD x 0<65536:=fun x hx=>by
  obtain ⟨c,h,rfl⟩:=ht.mem_to (hc.lt s' hs') hx;exact hb _ (hc.cl s' hs' c h)
 unfold Hr
 constructor
 ·intro h
  have ha:=List.append_inj h rfl
  exact ⟨fM (hb s hs) (hb s' hs') ha.1,fun c _=>jG m1 m2 (r1.1.trans r2.1.symm) ha.2 c⟩
 ·rintro ⟨h1,h2⟩
  rw [h1,aJ (r1.1.trans r2.1.symm) fun i hi=>h2 i (by rw [← r1.1];exact hi)]
structure Wr (t:Tb) (b l:List Nat) (st:Rf):Prop where
 nd:st.keys.Nodup
 kl:st.keys.length=st.reps.length
 nl:st.next.length=b.length
 rp:∀ i r:Nat,st.reps[i]?=some r→r∈l∧st.keys[i]?=some (Hr t b r)
 nx:∀ s∈l,st.keys[st.next.getD s 0]?=some (Hr t b s)
theorem rf_one {t:Tb} {b l:List Nat} {st:Rf} {s:Nat} (h:Wr t b l st) (hs:s∉l) (hb:s<b.length):Wr t b (l++[s]) (Xc t b st s):=by
 unfold Xc
 by_cases hp:Bc (Hr t b s) st.keys<st.keys.length
 ·simp only [if_pos hp]
  refine ⟨h.nd,h.kl,by rw [AaP];exact h.nl,fun i r hi=>⟨AaY _ (h.rp i r hi).1,(h.rp i r hi).2⟩,fun s' hs'=>?_⟩
  rw [Ey (by rw [h.nl];exact hb)]
  rcases AaS.1 hs' with hm | hm
  ·rw [if_neg (fun e=>hs (by rw [← e];exact hm))];exact h.nx s' hm
  ·rw [AaE.1 hm,if_pos rfl,AaA hp,Ec hp]
 ·simp only [if_neg hp]
  have hno:Hr t b s∉st.keys:=fun hm=>hp (Cb.2 hm)
  refine ⟨?_,by rw [AaB,AaB,h.kl];rfl,by rw [AaP];exact h.nl,fun i r hi=>?_,fun s' hs'=>?_⟩
  ·rw [AbQ]
   exact ⟨h.nd,by simp,fun a ha c hc e=>hno (by rw [AaE.1 hc] at e;exact e▸ha)⟩
  ·rcases AaM i st.reps.length with hl | hl
   ·rw [AaN hl] at hi
    rw [AaN (by rw [h.kl];exact hl)]
    exact ⟨AaY _ (h.rp i r hi).1,(h.rp i r hi).2⟩
   ·rw [AaW hl] at hi
    have hi0:i-st.reps.length=0:=by
     rcases AbP (i-st.reps.length) with h0 | h0
     ·exact h0
     ·rw [AaL tE] at hi;cases hi
    rw [hi0] at hi
    injection hi with hi
    subst hi
    rw [AaW (by rw [h.kl];exact hl),h.kl,hi0]
    exact ⟨by simp,rfl⟩
  ·rw [Ey (by rw [h.nl];exact hb)]
   rcases AaS.1 hs' with hm | hm
   ·rw [if_neg (fun e=>hs (by rw [← e];exact hm))]
    have h1:=h.nx s' hm
    have hlt:st.next.getD s' 0<st.keys.length:=by
     rcases AaM (st.next.getD s' 0) st.keys.length with h2 | h2
     ·exact h2
     ·rw [AaL h2] at h1;cases h1
    rw [AaN hlt];exact h1
   ·rw [AaE.1 hm,if_pos rfl,← h.kl,AaW (AaR _),Aaw];rfl
theorem qF {t:Tb} {b:List Nat}:∀ (xs:List Nat) {l:List Nat} {st:Rf},Wr t b l st→(l++xs).Nodup→(∀ x∈xs,x<b.length)→Wr t b (l++xs) (xs.foldl (Xc t b) st)
 | [],l,st,h,_,_=>by rw [AaX];exact h
 | x::xs,l,st,h,hn,hx=>by
  have hno:x∉l:=fun hm=>by
   rw [AbQ] at hn
   exact hn.2.2 x hm x AaK rfl
  have:=qF xs (rf_one h hno (hx x AaK)) (by rw [AaI];exact hn) fun y hy=>hx y (AaG _ hy)
  rw [AaI] at this
  exact this
theorem rfR_ok {t:Tb} {b L:List Nat} (hn:L.Nodup) (hL:∀ x∈L,x<b.length):Wr t b L (rfR t L b):=by
 have h0:Wr t b [] ⟨[],List.replicate b.length 0,[]⟩:=⟨Aaz,rfl,by simp,fun i r hi=>(by cases hi),fun s hs=>(by cases hs)⟩
 have:=qF L h0 (by simpa using hn) hL
 rw [AbA] at this
 exact this
theorem xQ {t:Tb} {b:List Nat}:∀ (xs:List Nat) (st:Rf),∃ m,(xs.foldl (Xc t b) st).reps=st.reps++m
 | [],st=>⟨[],by simp⟩
 | x::xs,st=>by
  obtain ⟨m,hm⟩:=xQ xs (Xc t b st x)
  have h1:∃ m,(Xc t b st x).reps=st.reps++m:=by
   unfold Xc;dsimp only
   split
   ·exact ⟨[],by simp⟩
   ·exact ⟨[x],rfl⟩
  obtain ⟨m1,h1⟩:=h1
  exact ⟨m1++m,by rw [Aao,hm,h1,AaI]⟩
theorem rf_head {t:Tb} {b L:List Nat} (h:0<L.length):(rfR t L b).reps.getD 0 0=L.headD 0:=by
 cases L with
 | nil=>simp at h
 | cons x xs =>
  unfold rfR
  rw [Aao]
  obtain ⟨m,hm⟩:=xQ (t:=t) (b:=b) xs (Xc t b ⟨[],List.replicate b.length 0,[]⟩ x)
  rw [hm];rfl
structure xR (t:Tb) (b L nx rp:List Nat):Prop where
 nl:nx.length=b.length
 fx:∀ s∈L,∀ s'∈L,(nx.getD s 0=nx.getD s' 0↔Hr t b s=Hr t b s')
 lt:∀ s∈L,nx.getD s 0<rp.length
 rr:∀ i,i<rp.length→rp.getD i 0∈L∧nx.getD (rp.getD i 0) 0=i
theorem rf_fin {t:Tb} {b L:List Nat} {st:Rf} (h:Wr t b L st):xR t b L st.next st.reps:=by
 have hlt:∀ s∈L,st.next.getD s 0<st.keys.length:=fun s hs=>by
  have h1:=h.nx s hs
  rcases AaM (st.next.getD s 0) st.keys.length with h2 | h2
  ·exact h2
  ·rw [AaL h2] at h1;cases h1
 refine ⟨h.nl,fun s hs s' hs'=>⟨fun e=>?_,fun e=>?_⟩,fun s hs=>by rw [← h.kl];exact hlt s hs,fun i hi=>?_⟩
 ·have h1:=h.nx s hs;have h2:=h.nx s' hs'
  rw [e,h2] at h1;injection h1 with h1;exact h1.symm
 ·refine (List.getElem?_inj (hlt s hs) h.nd).1 ?_
  rw [h.nx s hs,h.nx s' hs',e]
 ·have hr:=h.rp i (st.reps.getD i 0) (by rw [gD hi,AaA hi])
  refine ⟨hr.1,(List.getElem?_inj (hlt _ hr.1) h.nd).1 ?_⟩
  rw [h.nx _ hr.1,hr.2]
theorem xR.le {t:Tb} {b L nx rp:List Nat} (h:xR t b L nx rp):rp.length≤L.length:=by
 have:=Ng (l:=List.range rp.length) (m:=L.map fun s=>nx.getD s 0) List.nodup_range fun i hi=>by
  obtain ⟨h1,h2⟩:=h.rr i (Aae.1 hi)
  exact Aaf.2 ⟨_,h1,h2⟩
 rwa [AaO,AaC] at this
structure Bk (t:Tb) (L b:List Nat):Prop where
 len:b.length=t.next.length
 sm:qE b L
 acc:∀ s∈L,∀ s'∈L,b.getD s 0=b.getD s' 0→t.acc.getD s false=t.acc.getD s' false
 eqv:∀ s∈L,∀ s'∈L,(∀ w,CW t w→la t s w=la t s' w)→b.getD s 0=b.getD s' 0
def Cnt (L b:List Nat) (c:Nat):Prop:=c=0∨((∀ s∈L,b.getD s 0<c)∧∀ i,i<c→∃ s∈L,b.getD s 0=i)
structure Stb (t:Tb) (L b r:List Nat):Prop where
 len:b.length=t.next.length
 lt:∀ s∈L,b.getD s 0<r.length
 rr:∀ i,i<r.length→r.getD i 0∈L∧b.getD (r.getD i 0) 0=i
 le:r.length≤L.length
 hd:r.getD 0 0=L.headD 0
 lang:∀ s∈L,∀ s'∈L,(b.getD s 0=b.getD s' 0↔∀ w,CW t w→la t s w=la t s' w)
theorem xS {t:Tb} {L:List Nat} (ht:TOk t) (hc:Clo t L):∀ (f:Nat) (b:List Nat) (c:Nat),Bk t L b→Cnt L b c→L.length+1<f+c→∃ b' r,mD t L f b c=some (b',r)∧Stb t L b' r
 | 0,b,c,hb,hk,hf=>by
  rcases hk with rfl | ⟨_,h2⟩
  ·omega
  ·have:=Ng (l:=List.range c) (m:=L.map fun s=>b.getD s 0) List.nodup_range fun i hi=>by
    obtain ⟨s,h3,h4⟩:=h2 i (Aae.1 hi)
    exact Aaf.2 ⟨s,h3,h4⟩
   rw [AaO,AaC] at this;omega
 | f+1,b,c,hb,hk,hf=>by
  have F:=rf_fin (rfR_ok (t:=t) (b:=b) (L:=L) hc.nd fun x hx=>by rw [hb.len];exact hc.lt x hx)
  rw [mD]
  obtain ⟨nx,hnx⟩:∃ x,x=(rfR t L b).next:=⟨_,rfl⟩
  obtain ⟨rp,hrp⟩:∃ x,x=(rfR t L b).reps:=⟨_,rfl⟩
  have hhd:rp.getD 0 0=L.headD 0:=by rw [hrp];exact rf_head (List.length_pos_of_mem hc.z)
  simp only [← hnx,← hrp] at F ⊢
  have hpos:0<rp.length:=Nat.lt_of_le_of_lt (Aas _) (F.lt 0 hc.z)
  have hki:=fun {s s':Nat} (hs:s∈L) (hs':s'∈L)=>(F.fx s hs s' hs').trans (key_iff ht hc hb.sm hs hs')
  have hacc:∀ s∈L,∀ s'∈L,nx.getD s 0=nx.getD s' 0→t.acc.getD s false=t.acc.getD s' false:=fun s hs s' hs' e=>hb.acc s hs s' hs' ((hki hs hs').1 e).1
  have heqv:∀ s∈L,∀ s'∈L,(∀ w,CW t w→la t s w=la t s' w)→nx.getD s 0=nx.getD s' 0:=fun s hs s' hs' e =>
   (hki hs hs').2 ⟨hb.eqv s hs s' hs' e,fun c hcc=>hb.eqv _ (hc.cl s hs c hcc) _ (hc.cl s' hs' c hcc) fun w hw=>e (c::w) fun d hd=>by
    rcases AaV.1 hd with rfl | hd
    ·exact hcc
    ·exact hw d hd⟩
  have hll:L.length≤t.next.length:=len_le hc.nd hc.lt
  have hrl:=F.le
  have h60:=ht.n2
  by_cases hcc:rp.length=c
  ·rw [if_pos hcc]
   have hk2:=hk.resolve_left Bm
   have hin:∀ k,k<c→k∈rp.map fun r=>b.getD r 0:=fun k hkc=>by
    obtain ⟨s,hs,hsk⟩:=hk2.2 k hkc
    have hr:=F.rr _ (F.lt s hs)
    refine Aaf.2 ⟨rp.getD (nx.getD s 0) 0,?_,?_⟩
    ·rw [gD (F.lt s hs)];exact AaD _
    ·rw [← hsk];exact ((hki hr.1 hs).1 hr.2).1
   have hinj:∀ s∈L,∀ s'∈L,b.getD s 0=b.getD s' 0→nx.getD s 0=nx.getD s' 0:=fun s hs s' hs' e=>by
    have r1:=F.rr _ (F.lt s hs);have r2:=F.rr _ (F.lt s' hs')
    have e1:=((hki r1.1 hs).1 r1.2).1
    have e2:=((hki r2.1 hs').1 r2.2).1
    refine xO (L:=rp.map fun r=>b.getD r 0) (by rw [AaC];exact hcc) hin (by rw [AaC];exact F.lt s hs) (by rw [AaC];exact F.lt s' hs') ?_
    rw [Aaa,Aaa]
    rw [gD (F.lt s hs)] at e1;rw [gD (F.lt s' hs')] at e2
    rw [e1,e2,e]
   have hstep:∀ s∈L,∀ s'∈L,nx.getD s 0=nx.getD s' 0→∀ c,c<t.cells→nx.getD (t.to s c) 0=nx.getD (t.to s' c) 0:=fun s hs s' hs' e c hcc =>
    hinj _ (hc.cl s hs c hcc) _ (hc.cl s' hs' c hcc) (((hki hs hs').1 e).2 c hcc)
   have hlang:∀ (w:List Nat),CW t w→∀ s∈L,∀ s'∈L,nx.getD s 0=nx.getD s' 0→la t s w=la t s' w:=by
    intro w
    induction w with
    | nil=>exact fun _ s hs s' hs' e=>hacc s hs s' hs' e
    | cons c w ih =>
     intro hw s hs s' hs' e
     have hcc:=hw c AaK
     exact ih (fun d hd=>hw d (AaG _ hd)) _ (hc.cl s hs c hcc) _ (hc.cl s' hs' c hcc) (hstep s hs s' hs' e c hcc)
   exact ⟨nx,rp,rfl,by rw [F.nl];exact hb.len,F.lt,F.rr,F.le,hhd,fun s hs s' hs'=>⟨fun e w hw=>hlang w hw s hs s' hs' e,heqv s hs s' hs'⟩⟩
  ·rw [if_neg hcc]
   have hge:c≤rp.length:=by
    rcases hk with rfl | ⟨_,h2⟩
    ·omega
    ·have:=Ng (l:=List.range c) (m:=rp.map fun r=>b.getD r 0) List.nodup_range fun i hi=>by
      obtain ⟨s,hs,hsi⟩:=h2 i (Aae.1 hi)
      have hr:=F.rr _ (F.lt s hs)
      refine Aaf.2 ⟨rp.getD (nx.getD s 0) 0,?_,?_⟩
      ·rw [gD (F.lt s hs)];exact AaD _
      ·rw [← hsi];exact ((hki hr.1 hs).1 hr.2).1
     rwa [AaO,AaC] at this
   refine xS ht hc f nx rp.length ⟨by rw [F.nl];exact hb.len,fun s hs=>by have:=F.lt s hs;omega,hacc,heqv⟩ (Or.inr ⟨F.lt,fun i hi=>⟨_,F.rr i hi⟩⟩) Bm
theorem nH {t:Tb} {n:Nat}:∀ (L:List Nat) (b:List Nat),b.length=n→(∀ s∈L,s<n)→(∀ x,b.getD x 0=0∨b.getD x 0=1) →
  (L.foldl (fun b s=>if t.acc.getD s false=true then b.set s 1 else b) b).length=n ∧
  ∀ x,(L.foldl (fun b s=>if t.acc.getD s false=true then b.set s 1 else b) b).getD x 0=if x∈L∧t.acc.getD x false=true then 1 else b.getD x 0
 | [],b,hl,_,_=>⟨hl,fun x=>by simp⟩
 | s::L,b,hl,hs,h01=>by
  rw [Aao]
  have hsn:=hs s AaK
  by_cases ha:t.acc.getD s false=true
  ·rw [if_pos ha]
   obtain ⟨h1,h2⟩:=nH (t:=t) (n:=n) L (b.set s 1) (by rw [AaP];exact hl) (fun y hy=>hs y (AaG _ hy)) (fun x=>by
    rw [Ey Bm];split
    ·exact Or.inr rfl
    ·exact h01 x)
   refine ⟨h1,fun x=>?_⟩
   rw [h2 x,Ey Bm]
   by_cases hx:x∈L∧t.acc.getD x false=true
   ·rw [if_pos hx,if_pos ⟨AaG _ hx.1,hx.2⟩]
   ·rw [if_neg hx]
    by_cases e:x=s
    ·subst e;rw [if_pos rfl,if_pos ⟨AaK,ha⟩]
    ·rw [if_neg e,if_neg]
     rintro ⟨h3,h4⟩
     rcases AaV.1 h3 with h3 | h3
     ·exact e h3
     ·exact hx ⟨h3,h4⟩
  ·rw [if_neg ha]
   obtain ⟨h1,h2⟩:=nH (t:=t) (n:=n) L b hl (fun y hy=>hs y (AaG _ hy)) h01
   refine ⟨h1,fun x=>?_⟩
   rw [h2 x]
   by_cases hx:x∈L∧t.acc.getD x false=true
   ·rw [if_pos hx,if_pos ⟨AaG _ hx.1,hx.2⟩]
   ·rw [if_neg hx,if_neg]
    rintro ⟨h3,h4⟩
    rcases AaV.1 h3 with rfl | h3
    ·exact ha h4
    ·exact hx ⟨h3,h4⟩
theorem rfB_ok {t:Tb} {L:List Nat} (hc:Clo t L):Bk t L (rfB t L):=by
 obtain ⟨h1,h2⟩:=nH (t:=t) L (List.replicate t.next.length 0) Di hc.lt fun x=>by
  rw [AaH,List.getElem?_replicate];split<;>simp
 have h0:∀ x,(List.replicate t.next.length 0).getD x 0=0:=fun x=>by rw [AaH,List.getElem?_replicate];split<;>simp
 have hv:∀ s∈L,(rfB t L).getD s 0=if t.acc.getD s false=true then 1 else 0:=fun s hs=>by
  unfold rfB;rw [h2 s,h0]
  by_cases ha:t.acc.getD s false=true
  ·rw [if_pos ⟨hs,ha⟩,if_pos ha]
  ·rw [if_neg (fun h=>ha h.2),if_neg ha]
 refine ⟨h1,fun s hs=>by rw [hv s hs];split<;>omega,fun s hs s' hs' e=>?_,fun s hs s' hs' e=>?_⟩
 ·rw [hv s hs,hv s' hs'] at e
  revert e
  cases t.acc.getD s false<;>cases t.acc.getD s' false<;>intro e
  ·rfl
  ·exact absurd e Lk
  ·exact absurd e Lk
  ·rfl
 ·rw [hv s hs,hv s' hs']
  have:=e [] fun c hc=>(by cases hc)
  have h3:t.acc.getD s false=t.acc.getD s' false:=this
  rw [h3]
theorem refine_all {t:Tb} {L:List Nat} (ht:TOk t) (hc:Clo t L) {f:Nat} (hf:L.length+1<f):∃ b r,mD t L f (rfB t L) 0=some (b,r)∧Stb t L b r :=
 xS ht hc f _ 0 (rfB_ok hc) (Or.inl rfl) Bm
end Cn7
namespace Cn7
section
variable {α β:Type} [DecidableEq α] [DecidableEq β]
def dd (f:Nat→α):Nat→List α
 | 0=>[]
 | k+1=>if f k∈dd f k then dd f k else dd f k++[f k]
theorem Jy (f:Nat→α):∀ (k:Nat) {a:α},a∈dd f k↔∃ x,x<k∧f x=a
 | 0,a=>⟨(fun h=>by cases h),fun ⟨x,h,_⟩=>by omega⟩
 | k+1,a=>by
  have ih:=Jy f k (a:=a)
  rw [dd]
  split
  ·rename_i hm
   rw [ih]
   refine ⟨fun ⟨x,h1,h2⟩=>⟨x,by omega,h2⟩,fun ⟨x,h1,h2⟩=>?_⟩
   rcases AaM x k with h3 | h3
   ·exact ⟨x,h3,h2⟩
   ·obtain rfl:x=k:=by omega
    obtain ⟨y,h4,h5⟩:=(Jy f x).1 hm
    exact ⟨y,h4,h5.trans h2⟩
  ·rw [AaS,ih,AaE]
   refine ⟨fun h=>?_,fun ⟨x,h1,h2⟩=>?_⟩
   ·rcases h with ⟨x,h1,h2⟩ | rfl
    ·exact ⟨x,by omega,h2⟩
    ·exact ⟨k,by omega,rfl⟩
   ·rcases AaM x k with h3 | h3
    ·exact .inl ⟨x,h3,h2⟩
    ·obtain rfl:x=k:=by omega
     exact .inr h2.symm
theorem dd_nodup (f:Nat→α):∀ k,(dd f k).Nodup
 | 0=>Aaz
 | k+1=>by
  rw [dd]
  split
  ·exact dd_nodup f k
  ·rename_i hm
   rw [AbQ]
   exact ⟨dd_nodup f k,by simp,fun a ha b hb e=>hm Z35⟩
theorem aK (f:Nat→α):∀ k,(dd f k).length≤k
 | 0=>by simp [dd]
 | k+1=>by
  have:=aK f k
  rw [dd];split
  ·omega
  ·rw [AaB,Aac];omega
theorem xT (f:Nat→α) (k:Nat):∀ j,∃ m,dd f (k+j)=dd f k++m
 | 0=>⟨[],by simp⟩
 | j+1=>by
  obtain ⟨m,hm⟩:=xT f k j
  rw [← Nat.add_assoc,dd]
  split
  ·exact ⟨m,hm⟩
  ·exact ⟨m++[f (k+j)],by rw [hm,AaI]⟩
theorem Fw {a:α}:∀ {l m:List α},a∈l→Bc a (l++m)=Bc a l
 | [],_,h=>by cases h
 | b::l,m,h=>by
  by_cases e:b=a
  ·subst e;simp [Bc]
  ·have:=Fw (l:=l) (m:=m) ((AaV.1 h).resolve_left fun h=>e h.symm)
   simp [Bc,e,this]
theorem Ez {a:α}:∀ {l:List α},a∉l→Bc a (l++[a])=l.length
 | [],_=>by simp [Bc]
 | b::l,h=>by
  have e:¬ b=a:=fun e=>h (e▸AaK)
  have:=Ez (l:=l) fun hm=>h (AaG _ hm)
  simp [Bc,e,this]
theorem posK_at {l:List α} (hn:l.Nodup) {i:Nat} (hi:i<l.length):Bc l[i] l=i:=by
 have h1:Bc l[i] l<l.length:=Cb.2 (AaD hi)
 refine (List.getElem?_inj h1 hn).1 ?_
 rw [AaA h1,Ec h1,AaA hi]
theorem qG {l:List α} {a b:α} (ha:a∈l) (h:Bc a l=Bc b l):a=b:=by
 have h1:Bc a l<l.length:=Cb.2 ha
 have h2:Bc b l<l.length:=h▸h1
 have e1:=Ec h1
 have e2:=Ec h2
 rw [← e1,← e2]
 congr 1
theorem Kz (f:Nat→α) {k x:Nat} (h:x<k):Bc (f x) (dd f k)<(dd f k).length:=Cb.2 ((Jy f k).2 ⟨x,h,rfl⟩)
theorem Sx (f:Nat→α) {k n x:Nat} (h:x<k) (hk:k≤n):Bc (f x) (dd f n)=Bc (f x) (dd f k):=by
 obtain ⟨m,hm⟩:=xT f k (n-k)
 rw [show k+(n-k)=n by omega] at hm
 rw [hm,Fw ((Jy f k).2 ⟨x,h,rfl⟩)]
theorem Sy (f:Nat→α):∀ (n:Nat) {i:Nat},i<(dd f n).length→∃ x,x<n∧Bc (f x) (dd f n)=i∧∀ y,y<x→Bc (f y) (dd f n)<i
 | 0,i,h=>by simp [dd] at h
 | n+1,i,h=>by
  rcases AaM i (dd f n).length with h1 | h1
  ·obtain ⟨x,hx,h2,h3⟩:=Sy f n h1
   exact ⟨x,by omega,by rw [Sx f hx (Nat.le_succ n)];exact h2,fun y hy=>by rw [Sx f (by omega:y<n) (Nat.le_succ n)];exact h3 y hy⟩
  ·have hm:¬ f n∈dd f n:=fun hm=>by rw [dd,if_pos hm] at h;omega
   have e:dd f (n+1)=dd f n++[f n]:=by rw [dd,if_neg hm]
   rw [e,AaB,Aac] at h
   refine ⟨n,by omega,by rw [e,Ez hm];omega,fun y hy=>?_⟩
   rw [Sx f hy (Nat.le_succ n)]
   have:=Kz f hy
   omega
theorem aL {f:Nat→α} {g:Nat→β}:∀ (n:Nat),(∀ x y,x<n→y<n→(f x=f y↔g x=g y))→(dd f n).length=(dd g n).length∧∀ x,x<n→Bc (f x) (dd f n)=Bc (g x) (dd g n)
 | 0,_=>⟨rfl,fun x h=>by omega⟩
 | n+1,h=>by
  obtain ⟨h1,h2⟩:=aL n fun x y hx hy=>h x y Bm Bm
  have hm:f n∈dd f n↔g n∈dd g n:=by
   rw [Jy,Jy]
   exact ⟨fun ⟨x,hx,e⟩=>⟨x,hx,(h x n Bm Bm).1 e⟩,fun ⟨x,hx,e⟩=>⟨x,hx,(h x n Bm Bm).2 e⟩⟩
  by_cases hf:f n∈dd f n
  ·have hg:=hm.1 hf
   have ef:dd f (n+1)=dd f n:=by rw [dd,if_pos hf]
   have eg:dd g (n+1)=dd g n:=by rw [dd,if_pos hg]
   rw [ef,eg]
   refine ⟨h1,fun x hx=>?_⟩
   rcases AaM x n with h3 | h3
   ·exact h2 x h3
   ·obtain rfl:x=n:=by omega
    obtain ⟨y,hy,e⟩:=(Jy f x).1 hf
    have e':=(h y x Bm Bm).1 e
    rw [← e,← e'];exact h2 y hy
  ·have hg:¬ g n∈dd g n:=fun hg=>hf (hm.2 hg)
   have ef:dd f (n+1)=dd f n++[f n]:=by rw [dd,if_neg hf]
   have eg:dd g (n+1)=dd g n++[g n]:=by rw [dd,if_neg hg]
   refine ⟨by rw [ef,eg,AaB,AaB,h1];rfl,fun x hx=>?_⟩
   rcases AaM x n with h3 | h3
   ·rw [Sx f h3 (Nat.le_succ n),Sx g h3 (Nat.le_succ n)];exact h2 x h3
   ·obtain rfl:x=n:=by omega
    rw [ef,eg,Ez hf,Ez hg,h1]
end
theorem Is {a b:List Nat} (ha:Cj a) (hb:Cj b) (z:UInt8):Bv (Df a b) z=(Bv a z || Bv b z):=by
 obtain ⟨a0,a1,a2,a3,rfl⟩:=Ei ha.1
 obtain ⟨b0,b1,b2,b3,rfl⟩:=Ei hb.1
 rw [Dp,Dp,Dp]
 have hz:=z.toNat_lt
 have key:∀ a b:Nat,(fA a b % W64).testBit (z.toNat % 64)=((a % W64).testBit (z.toNat % 64) || (b % W64).testBit (z.toNat % 64)):=fun a b=>by
  rw [AaT (Pn a b)];unfold fA;rw [Nat.testBit_or]
 rcases (by omega:z.toNat / 64=0∨z.toNat / 64=1∨z.toNat / 64=2∨z.toNat / 64=3) with h | h | h | h<;>rw [h]
 ·exact key a0 b0
 ·exact key a1 b1
 ·exact key a2 b2
 ·exact key a3 b3
theorem Gf {a b:List Nat} (ha:Cj a) (hb:Cj b):Cj (Df a b):=by
 obtain ⟨a0,a1,a2,a3,rfl⟩:=Ei ha.1
 obtain ⟨b0,b1,b2,b3,rfl⟩:=Ei hb.1
 refine ⟨rfl,fun w hw=>?_⟩
 simp only [Df,List.zipWith_cons_cons,List.zipWith_nil_left,AaV,AbI,or_false] at hw
 rcases hw with rfl | rfl | rfl | rfl<;>exact Pn _ _
theorem has_one (x y:UInt8):Bv (Xb [x]) y=decide (y=x):=by
 rw [has_of];simp
theorem b8 {x:Nat} (h:x<256) (y:UInt8):(y=UInt8.ofNat x)↔y.toNat=x:=by
 have e:(UInt8.ofNat x).toNat=x:=by rw [Aav];omega
 rw [← AcI,e]
def ky (t:Tb) (b r:List Nat) (x:Nat):List UInt8:=Wd t b r (t.cell.getD x 0)
structure MOk (t:Tb) (b r:List Nat) (k:Nat) (st:Mg):Prop where
 keys:st.keys=dd (ky t b r) k
 kl:st.cells.length=st.keys.length
 cl:st.cls.length=st.keys.length
 ol:st.of.length=t.cells
 c4:∀ c∈st.cls,Cj c
 kc:∀ i c:Nat,st.cells[i]?=some c→c<t.cells∧st.keys[i]?=some (Wd t b r c)
 of1:∀ x,x<k→st.of.getD (t.cell.getD x 0) 0=((Bc (ky t b r x) st.keys:Nat):Int)
 of2:∀ c,c<t.cells→(∀ x,x<k→t.cell.getD x 0≠c)→st.of.getD c 0=-1
 mem:∀ i (y:UInt8),i<st.cls.length→Bv (st.cls.getD i []) y=decide (y.toNat<k∧Bc (ky t b r y.toNat) st.keys=i)
theorem jH {f:Nat→List UInt8} {k:Nat} {keys:List (List UInt8)} {cls:List (List Nat)} (hk:k<256) (hd:keys=dd f (k+1)) (hl:cls.length=keys.length) (h4:∀ c∈cls,Cj c)
  (hm:∀ i (y:UInt8),i<cls.length→Bv (cls.getD i []) y=decide (y.toNat<k∧Bc (f y.toNat) keys=i)) :
  let p:=Bc (f k) keys
  (∀ c∈cls.set p (Df (cls.getD p []) (Xb [UInt8.ofNat k])),Cj c) ∧
  ∀ i (y:UInt8),i<cls.length→Bv ((cls.set p (Df (cls.getD p []) (Xb [UInt8.ofNat k]))).getD i []) y=decide (y.toNat<k+1∧Bc (f y.toNat) keys=i):=by
 intro p
 have hp:p<cls.length:=by rw [hl];show Bc (f k) keys<_;rw [hd];exact Kz _ (Nat.lt_succ_self k)
 have hcp:Cj (cls.getD p []):=by rw [gD hp];exact h4 _ (AaD hp)
 refine ⟨fun c hc=>?_,fun i y hi=>?_⟩
 ·rcases AbB hc with h | rfl
  ·exact h4 c h
  ·exact Gf hcp (xF _)
 ·rw [Ey hp]
  by_cases e:i=p
  ·subst e
   rw [if_pos rfl,Is hcp (xF _),has_one,hm p y hp,AbG]
   simp only [Abv,decide_eq_true_eq,b8 hk]
   constructor
   ·rintro (⟨h1,h2⟩ | h)
    ·exact ⟨by omega,h2⟩
    ·exact ⟨by omega,by rw [h]⟩
   ·rintro ⟨h1,h2⟩
    rcases AaM y.toNat k with h3 | h3
    ·exact .inl ⟨h3,h2⟩
    ·exact .inr Bm
  ·rw [if_neg e,hm i y hi,AbG]
   simp only [decide_eq_true_eq]
   constructor
   ·rintro ⟨h1,h2⟩;exact ⟨by omega,h2⟩
   ·rintro ⟨h1,h2⟩
    rcases AaM y.toNat k with h3 | h3
    ·exact ⟨h3,h2⟩
    ·obtain hy:y.toNat=k:=by omega
     exact absurd (by rw [hy] at h2;exact h2.symm) e
theorem m_one {t:Tb} {b r:List Nat} (ht:TOk t) {k:Nat} (hk:k<256) {st:Mg} (h:MOk t b r k st):MOk t b r (k+1) (mE t b r st k):=by
 have hc:=ht.cellAt hk
 have hnd:st.keys.Nodup:=by rw [h.keys];exact dd_nodup _ _
 unfold mE
 obtain ⟨c,hce⟩:∃ c,c=t.cell.getD k 0:=⟨_,rfl⟩
 rw [← hce] at hc
 simp only [← hce]
 have hkc:ky t b r k=Wd t b r c:=by unfold ky;rw [← hce]
 by_cases hsee:∃ x,x<k∧t.cell.getD x 0=c
 ·obtain ⟨x,hx,hxc⟩:=hsee
  have hof:=h.of1 x hx
  rw [hxc] at hof
  have hkx:ky t b r x=ky t b r k:=by unfold ky;rw [hxc,hce]
  rw [if_neg (by rw [hof];omega),hof,hkx,AbE]
  have hd:st.keys=dd (ky t b r) (k+1):=by
   rw [dd,if_pos ((Jy _ _).2 ⟨x,hx,hkx⟩)];exact h.keys
  obtain ⟨u1,u2⟩:=jH hk hd h.cl h.c4 h.mem
  refine ⟨hd,h.kl,by rw [AaP];exact h.cl,h.ol,u1,h.kc,fun y hy=>?_,fun d hd hdn=>h.of2 d hd fun y hy=>hdn y Bm,fun i y hi=>u2 i y Z43⟩
  rcases AaM y k with h3 | h3
  ·exact h.of1 y h3
  ·obtain rfl:y=k:=by omega
   rw [← hce,hof,hkx]
 ·have hno:∀ x,x<k→t.cell.getD x 0≠c:=fun x hx e=>hsee ⟨x,hx,e⟩
  rw [if_pos (by rw [h.of2 c hc hno];decide)]
  unfold nD
  by_cases hp:Bc (Wd t b r c) st.keys<st.keys.length
  ·simp only [if_pos hp]
   have hd:st.keys=dd (ky t b r) (k+1):=by
    rw [dd,if_pos (by rw [← h.keys,hkc];exact Cb.1 hp)];exact h.keys
   rw [Ey Z59,if_pos rfl,AbE,← hkc]
   obtain ⟨u1,u2⟩:=jH hk hd h.cl h.c4 h.mem
   refine ⟨hd,h.kl,by rw [AaP];exact h.cl,by rw [AaP];exact h.ol,u1,h.kc,fun y hy=>?_,fun d hd hdn=>?_,fun i y hi=>u2 i y Z43⟩
   ·rw [Ey Z59]
    rcases AaM y k with h3 | h3
    ·rw [if_neg (hno y h3)];exact h.of1 y h3
    ·obtain rfl:y=k:=by omega
     rw [if_pos hce.symm]
   ·rw [Ey Z59,if_neg (fun e=>hdn k Bm (by rw [← hce,e]))]
    exact h.of2 d hd fun y hy=>hdn y Bm
  ·simp only [if_neg hp]
   have hnm:ky t b r k∉dd (ky t b r) k:=by rw [← h.keys,hkc];exact fun hm=>hp (Cb.2 hm)
   have hd:st.keys++[Wd t b r c]=dd (ky t b r) (k+1):=by rw [dd,if_neg hnm,← h.keys,hkc]
   have hpe:Bc (ky t b r k) (st.keys++[Wd t b r c])=st.cells.length:=by
    rw [hkc,Ez (fun hm=>hp (Cb.2 hm)),h.kl]
   have hgrow:∀ y,y<k→Bc (ky t b r y) (st.keys++[Wd t b r c])=Bc (ky t b r y) st.keys:=fun y hy=>Fw (by rw [h.keys];exact (Jy _ _).2 ⟨y,hy,rfl⟩)
   rw [Ey Z59,if_pos rfl,AbE,← hpe]
   obtain ⟨u1,u2⟩:=jH (cls:=st.cls++[[0,0,0,0]]) hk hd (by rw [AaB,AaB,h.cl];rfl) (fun d hd=>by
     rcases AaS.1 hd with hd | hd
     ·exact h.c4 d hd
     ·rw [AaE.1 hd];exact Ov) (fun i y hi=>by
    rw [AaB,Aac] at hi
    rcases AaM i st.cls.length with h3 | h3
    ·rw [AaH,AaN h3,← AaH,h.mem i y h3,AbG]
     simp only [decide_eq_true_eq]
     exact ⟨fun ⟨h1,h2⟩=>⟨h1,by rw [hgrow _ h1];exact h2⟩,fun ⟨h1,h2⟩=>⟨h1,by rw [hgrow _ h1] at h2;exact h2⟩⟩
    ·rw [AaH,AaW h3,show i-st.cls.length=0 by omega]
     show Bv noC y=_
     rw [Lq,Eq.comm,decide_eq_false_iff_not]
     rintro ⟨h1,h2⟩
     rw [hgrow _ h1] at h2
     have h4:Bc (ky t b r y.toNat) st.keys<st.keys.length:=by rw [h.keys];exact Kz _ h1
     have:=h.cl
     omega)
   refine ⟨hd,by rw [AaB,AaB,h.kl];rfl,by rw [AaP,AaB,AaB,h.cl];rfl,by rw [AaP];exact h.ol,u1,fun i d hi=>?_,fun y hy=>?_,fun d hd hdn=>?_,fun i y hi=>u2 i y Z43⟩
   ·rcases AaM i st.cells.length with h3 | h3
    ·rw [AaN h3] at hi
     have:=h.kc i d hi
     rw [AaN (by rw [← h.kl];exact h3)];exact this
    ·rw [AaW h3] at hi
     have hi0:i-st.cells.length=0:=by
      rcases AbP (i-st.cells.length) with h0 | h0
      ·exact h0
      ·rw [AaL tE] at hi;cases hi
     rw [hi0] at hi;injection hi with hi;subst hi
     rw [AaW (by rw [← h.kl];exact h3),← h.kl,hi0]
     exact ⟨hc,rfl⟩
   ·rw [Ey Z59]
    rcases AaM y k with h3 | h3
    ·rw [if_neg (hno y h3),hgrow y h3];exact h.of1 y h3
    ·obtain rfl:y=k:=by omega
     rw [if_pos hce.symm]
   ·rw [Ey Z59,if_neg (fun e=>hdn k Bm (by rw [← hce,e]))]
    exact h.of2 d hd fun y hy=>hdn y Bm
theorem m_all {t:Tb} {b r:List Nat} (ht:TOk t):∀ k,k≤256→MOk t b r k ((List.range k).foldl (mE t b r) ⟨[],[],[],List.replicate t.cells (-1)⟩)
 | 0,_=>⟨rfl,rfl,rfl,by simp,(fun c hc=>by cases hc),(fun i c hi=>by cases hi),fun x hx=>by omega,(fun c hc _=>by
   show (List.replicate t.cells (-1:Int)).getD c 0=-1
   rw [gD (by rw [AaJ];exact hc),AcM]),fun i y hi=>by simp at hi⟩
 | k+1,hk=>by
  rw [AbC,Aap]
  exact m_one ht Bm (m_all ht k Bm)
theorem uA {t:Tb} (ht:TOk t) (b r:List Nat):MOk t b r 256 (Ky t b r):=m_all ht 256 (AaR _)
theorem qH {t:Tb} {L b r:List Nat} {c d:Nat} (hc:Clo t L) (hb:qE b L) (hr:∀ s∈r,s∈L) (h1:c<t.cells) (h2:d<t.cells) :
  Wd t b r c=Wd t b r d↔∀ s∈r,b.getD (t.to s c) 0=b.getD (t.to s d) 0:=by
 unfold Wd
 induction r with
 | nil=>exact ⟨(fun _ s hs=>by cases hs),fun _=>rfl⟩
 | cons s r ih =>
  have hs:=hr s AaK
  have ih:=ih fun x hx=>hr x (AaG _ hx)
  rw [Aan,Aan]
  constructor
  ·intro h x hx
   have ha:=List.append_inj h rfl
   rcases AaV.1 hx with rfl | hx
   ·exact fM (hb _ (hc.cl x hs c h1)) (hb _ (hc.cl x hs d h2)) ha.1
   ·exact ih.1 ha.2 x hx
  ·intro h
   rw [h s AaK,ih.2 fun x hx=>h x (AaG _ hx)]
end Cn7
namespace Cn7
def TT (t:Tb) (b r od:List Nat) (j c:Nat):Nat:=b.getD (t.to (r.getD (od.getD j 0) 0) c) 0
def LX (j k j' k':Nat):Prop:=j<j'∨(j=j'∧k<k')
theorem Mc {α:Type} {l m:List α} {i:Nat} {d:α} (h:i<l.length):(l++m).getD i d=l.getD i d:=by rw [AaH,AaN h,← AaH]
theorem aM {t:Tb} {b r od:List Nat} (m:List Nat) {j c:Nat} (hj:j<od.length):TT t b r (od++m) j c=TT t b r od j c:=by
 unfold TT;rw [Mc hj]
structure CI (t:Tb) (b r cells:List Nat) (i k:Nat) (pl:List Int) (od:List Nat):Prop where
 pll:pl.length=r.length
 nd:od.Nodup
 lt:∀ x∈od,x<r.length
 hd:od[0]?=some (b.getD 0 0)
 pl:∀ x,x<r.length→pl.getD x 0=if x∈od then ((Bc x od:Nat):Int) else -1
 il:i≤od.length
 inn:∀ j k',k'<cells.length→LX j k' i k→j<od.length∧TT t b r od j (cells.getD k' 0)∈od
 fo:∀ v,1≤v→v<od.length→∃ j k',k'<cells.length∧LX j k' i k∧j<v∧Bc (TT t b r od j (cells.getD k' 0)) od=v ∧
  ∀ j' k'',k''<cells.length→LX j' k'' j k'→Bc (TT t b r od j' (cells.getD k'' 0)) od<v
theorem LX.trans {a b c d e f:Nat} (h1:LX a b c d) (h2:LX c d e f):LX a b e f:=by unfold LX at *;omega
theorem ci_one {t:Tb} {b r cells:List Nat} {i k s:Nat} {pl:List Int} {od row:List Nat} (h:CI t b r cells i k pl od) (hi:i<od.length) (hk:k<cells.length) (hs:s=r.getD (od.getD i 0) 0)
  (hx:TT t b r od i (cells.getD k 0)<r.length) :
  let st:=tS t b s ⟨pl,od,row⟩ (cells.getD k 0)
  CI t b r cells i (k+1) st.place st.order∧(∃ m,st.order=od++m)∧st.row=row++[Bc (TT t b r st.order i (cells.getD k 0)) st.order]:=by
 intro st
 obtain ⟨x,hxe⟩:∃ x,x=TT t b r od i (cells.getD k 0):=⟨_,rfl⟩
 rw [← hxe] at hx
 have hst:st=(fun st:Cn=>{ st with row:=st.row++[(st.place.getD x 0).toNat] }) (if pl.getD x 0<0 then ⟨pl.set x (od.length:Int),od++[x],row⟩ else ⟨pl,od,row⟩):=by
  show tS t b s ⟨pl,od,row⟩ (cells.getD k 0)=_
  unfold tS
  have:b.getD (t.to s (cells.getD k 0)) 0=x:=by rw [hxe,hs];rfl
  simp only [this]
 have hsplit:∀ j k',LX j k' i (k+1)→LX j k' i k∨(j=i∧k'=k):=by intro j k' h;unfold LX at *;omega
 by_cases hm:x∈od
 ·have hpx:=h.pl x hx
  rw [if_pos hm] at hpx
  rw [if_neg Bm] at hst
  rw [hst]
  refine ⟨⟨h.pll,h.nd,h.lt,h.hd,h.pl,h.il,fun j k' hk' hl=>?_,fun v h1 h2=>?_⟩,⟨[],by simp⟩,?_⟩
  ·rcases hsplit j k' hl with h3 | ⟨rfl,rfl⟩
   ·exact h.inn j k' hk' h3
   ·exact ⟨hi,by rw [← hxe];exact hm⟩
  ·obtain ⟨j,k',h3,h4,h5⟩:=h.fo v h1 h2
   exact ⟨j,k',h3,by unfold LX at *;omega,h5⟩
  ·show row++[(pl.getD x 0).toNat]=_
   rw [hpx,AbE,hxe]
 ·have hpx:=h.pl x hx
  rw [if_neg hm] at hpx
  rw [if_pos Bm] at hst
  rw [hst]
  have hgr:∀ j c,j<od.length→TT t b r od j c∈od→Bc (TT t b r (od++[x]) j c) (od++[x])=Bc (TT t b r od j c) od:=fun j c hj hin=>by
   rw [aM [x] hj,Fw hin]
  have hTi:TT t b r (od++[x]) i (cells.getD k 0)=x:=by rw [aM [x] hi,hxe]
  refine ⟨⟨by rw [AaP];exact h.pll,?_,?_,?_,?_,by have:=h.il;rw [AaB];omega,?_,?_⟩,⟨[x],rfl⟩,?_⟩
  ·rw [AbQ]
   exact ⟨h.nd,by simp,fun a ha c hc e=>hm (by rw [AaE.1 hc] at e;exact e▸ha)⟩
  ·intro y hy
   rcases AaS.1 hy with hy | hy
   ·exact h.lt y hy
   ·rw [AaE.1 hy];exact hx
  ·have h0:=h.hd
   rw [AaN Bm];exact h0
  ·intro y hy
   rw [Ey (by rw [h.pll];exact hx)]
   by_cases e:y=x
   ·subst e;rw [if_pos rfl,if_pos Di,Ez hm]
   ·rw [if_neg e,h.pl y hy]
    by_cases hyo:y∈od
    ·rw [if_pos hyo,if_pos (AaY _ hyo),Fw hyo]
    ·rw [if_neg hyo,if_neg]
     intro h3
     rcases AaS.1 h3 with h3 | h3
     ·exact hyo h3
     ·exact e (AaE.1 h3)
  ·intro j k' hk' hl
   rcases hsplit j k' hl with h3 | ⟨rfl,rfl⟩
   ·obtain ⟨h4,h5⟩:=h.inn j k' hk' h3
    exact ⟨by rw [AaB];omega,by rw [aM [x] h4];exact AaY _ h5⟩
   ·exact ⟨by rw [AaB];omega,by rw [hTi];simp⟩
  ·intro v h1 h2
   rw [AaB,Aac] at h2
   rcases AaM v od.length with h3 | h3
   ·obtain ⟨j,k',h4,h5,h6,h7,h8⟩:=h.fo v h1 h3
    obtain ⟨hj1,hj2⟩:=h.inn j k' h4 h5
    refine ⟨j,k',h4,by unfold LX at *;omega,h6,by rw [hgr j _ hj1 hj2];exact h7,fun j' k'' h9 h10=>?_⟩
    obtain ⟨h11,h12⟩:=h.inn j' k'' h9 (h10.trans h5)
    rw [hgr j' _ h11 h12];exact h8 j' k'' h9 h10
   ·obtain rfl:v=od.length:=by omega
    refine ⟨i,k,hk,by unfold LX;omega,hi,by rw [hTi,Ez hm],fun j' k'' h9 h10=>?_⟩
    obtain ⟨h11,h12⟩:=h.inn j' k'' h9 h10
    rw [hgr j' _ h11 h12]
    exact Cb.2 h12
  ·show row++[((pl.set x (od.length:Int)).getD x 0).toNat]=_
   rw [Ey (by rw [h.pll];exact hx),if_pos rfl,AbE,hTi,Ez hm]
theorem xU {t:Tb} {b r cells:List Nat} {i s:Nat} {pl:List Int} {od:List Nat} (h:CI t b r cells i 0 pl od) (hi:i<od.length) (hs:s=r.getD (od.getD i 0) 0)
  (hx:∀ c∈cells,b.getD (t.to s c) 0<r.length):∀ k,k≤cells.length →
  let st:=(cells.take k).foldl (tS t b s) ⟨pl,od,[]⟩
  CI t b r cells i k st.place st.order∧(∃ m,st.order=od++m)∧st.row=(cells.take k).map fun c=>Bc (TT t b r st.order i c) st.order
 | 0,_=>⟨h,⟨[],by simp⟩,by simp⟩
 | k+1,hk=>by
  obtain ⟨h1,⟨m1,e1⟩,h3⟩:=xU h hi hs hx k Bm
  rw [Aay,AaA Bm,Option.toList_some,Aap,Aao,List.foldl_nil]
  generalize (cells.take k).foldl (tS t b s) ⟨pl,od,[]⟩=S at h1 e1 h3
  obtain ⟨pl1,od1,row1⟩:=S
  simp only at h1 e1 h3
  have hc:cells[k]=cells.getD k 0:=(gD Bm).symm
  have hi1:i<od1.length:=by rw [e1,AaB];omega
  have hs1:s=r.getD (od1.getD i 0) 0:=by rw [hs,e1,Mc hi]
  obtain ⟨h4,⟨m2,e2⟩,h6⟩:=ci_one (row:=row1) h1 hi1 Bm hs1 (by
   have:=hx _ (AaD (by omega:k<cells.length))
   rw [hc] at this
   unfold TT;rw [← hs1];exact this)
  rw [hc]
  refine ⟨h4,⟨m1++m2,by rw [e2,e1,AaI]⟩,?_⟩
  rw [h6,AaU,List.map_singleton,e2]
  congr 1
  rw [h3]
  refine AbX fun c hcm=>?_
  obtain ⟨j,hj,hje⟩:=AaQ.1 hcm
  rw [Aag] at hj
  rw [List.getElem_take] at hje
  have hin:=(h1.inn i j Bm (by unfold LX;omega)).2
  rw [gD (by omega:j<cells.length),hje] at hin
  rw [aM m2 hi1,Fw hin]
def RowsI (t:Tb) (b r cells od:List Nat) (i:Nat) (nx:List (List Nat)) (ac:List Bool):Prop :=
 nx.length=i∧ac.length=i∧∀ j,j<i→nx.getD j []=(cells.map fun c=>Bc (TT t b r od j c) od)∧ac.getD j false=t.acc.getD (r.getD (od.getD j 0) 0) false
theorem xV {t:Tb} {b r cells:List Nat} (hx:∀ s∈r,∀ c∈cells,b.getD (t.to s c) 0<r.length):∀ (f i:Nat) {pl:List Int} {od:List Nat} {nx:List (List Nat)} {ac:List Bool},
  CI t b r cells i 0 pl od→RowsI t b r cells od i nx ac→r.length<f+i →
  ∃ pl' od' nx' ac',vX t b r cells f i pl od nx ac=some (nx',ac')∧CI t b r cells od'.length 0 pl' od'∧RowsI t b r cells od' od'.length nx' ac'
 | 0,i,pl,od,nx,ac,h,_,hf=>by
  have:=len_le h.nd h.lt;have:=h.il;omega
 | f+1,i,pl,od,nx,ac,h,hr,hf=>by
  rw [vX]
  by_cases hi:i<od.length
  ·rw [if_pos hi]
   obtain ⟨s,hs⟩:∃ s,s=r.getD (od.getD i 0) 0:=⟨_,rfl⟩
   have hsr:s∈r:=by
    have h1:=h.lt _ (AaD hi)
    rw [hs,gD hi,gD h1];exact AaD _
   obtain ⟨h1,⟨m,e1⟩,h3⟩:=xU h hi hs (hx s hsr) cells.length (AaR _)
   rw [Aaj] at h1 e1 h3
   simp only [← hs]
   generalize cells.foldl (tS t b s) ⟨pl,od,[]⟩=S at h1 e1 h3
   obtain ⟨pl1,od1,row1⟩:=S
   simp only at h1 e1 h3 ⊢
   have hi1:i<od1.length:=by rw [e1,AaB];omega
   obtain ⟨n1,n2,n3⟩:=hr
   have hLX:∀ j k',LX j k' (i+1) 0→k'<cells.length→LX j k' i cells.length:=by intro j k' h h';unfold LX at *;omega
   refine xV hx f (i+1) ⟨h1.pll,h1.nd,h1.lt,h1.hd,h1.pl,by omega,fun j k' hk hl=>h1.inn j k' hk (hLX j k' hl hk),fun v h5 h6=>?_⟩ ⟨by rw [AaB,n1];rfl,by rw [AaB,n2];rfl,fun j hj=>?_⟩ Bm
   ·obtain ⟨j,k',h7,h8,h9⟩:=h1.fo v h5 h6
    exact ⟨j,k',h7,by unfold LX at *;omega,h9⟩
   ·rcases AaM j i with hji | hji
    ·have hjo:j<od.length:=by omega
     obtain ⟨e3,e4⟩:=n3 j hji
     rw [Mc Bm,e3,Mc Bm,e4]
     refine ⟨AbX fun c hc=>?_,?_⟩
     ·obtain ⟨k',hk',rfl⟩:=AaQ.1 hc
      have hin:=(h.inn j k' hk' (by unfold LX;omega)).2
      rw [gD hk'] at hin
      rw [e1,aM m hjo,Fw hin]
     ·rw [e1,Mc hjo]
    ·obtain rfl:j=i:=by omega
     rw [AaH,AaW Bm,n1,Aaw,AaH (l:=ac++_),AaW Bm,n2,Aaw]
     refine ⟨h3,?_⟩
     show t.acc.getD s false=_
     rw [hs,e1,Mc hi]
  ·rw [if_neg hi]
   have hie:i=od.length:=by have:=h.il;omega
   subst hie
   exact ⟨pl,od,nx,ac,rfl,h,hr⟩
end Cn7
namespace Cn7
def step (t:Tb) (s x:Nat):Nat:=t.to s (t.cell.getD x 0)
def lb (t:Tb):Nat→List UInt8→Bool
 | s,[]=>t.acc.getD s false
 | s,x::w=>lb t (step t s x.toNat) w
theorem jI {t:Tb}:∀ (w:List UInt8) (s:Nat),lb t s w=la t s (w.map fun x=>t.cell.getD x.toNat 0)
 | [],_=>rfl
 | x::w,s=>by rw [lb,jI w];rfl
theorem aN {t:Tb} (ht:TOk t):∀ (w:List Nat),CW t w→∃ u:List UInt8,u.map (fun x=>t.cell.getD x.toNat 0)=w
 | [],_=>⟨[],rfl⟩
 | c::w,h=>by
  obtain ⟨u,hu⟩:=aN ht w fun d hd=>h d (AaG _ hd)
  obtain ⟨x,hx,hxc⟩:=ht.full c (h c AaK)
  refine ⟨UInt8.ofNat x::u,?_⟩
  have e:(UInt8.ofNat x).toNat=x:=by rw [Aav];omega
  rw [Aar,e,hxc,hu]
theorem dQ {t:Tb} (ht:TOk t) {s s':Nat}:(∀ w,CW t w→la t s w=la t s' w)↔∀ w,lb t s w=lb t s' w:=by
 constructor
 ·intro h w
  rw [jI,jI]
  refine h _ fun c hc=>?_
  obtain ⟨x,_,rfl⟩:=Aaf.1 hc
  exact ht.cellAt x.toNat_lt
 ·intro h w hw
  obtain ⟨u,rfl⟩:=aN ht w hw
  have:=h u
  rwa [jI,jI] at this
theorem step_lt {t:Tb} (ht:TOk t) {s x:Nat} (hs:s<t.next.length) (hx:x<256):step t s x<t.next.length:=ht.to_lt hs (ht.cellAt hx)
structure DOk (D:Cy):Prop where
 n1:1≤D.next.length
 n2:D.next.length≤60000
 al:D.acc.length=D.next.length
 k2:D.cls.length≤256
 c4:∀ c∈D.cls,Cj c
 ne:∀ i,i<D.cls.length→∃ y,Bv (D.cls.getD i []) y=true
 un:∀ i j y,i<D.cls.length→j<D.cls.length→Bv (D.cls.getD i []) y=true→Bv (D.cls.getD j []) y=true→i=j
 cv:∀ y,∃ i,i<D.cls.length∧Bv (D.cls.getD i []) y=true
 row:∀ r∈D.next,r.length=D.cls.length∧∀ x∈r,x<D.next.length
theorem mem_bytes {c:List Nat} (hc:Cj c) {y:UInt8}:y∈Br c↔Bv c y=true:=by
 rw [nF hc];unfold xG
 rw [AcG,Aaf]
 exact ⟨fun h=>h.2,fun h=>⟨⟨y.toNat,Aae.2 y.toNat_lt,by simp⟩,h⟩⟩
theorem qI:∀ (l:List UInt8) (ci:Nat) (cell:List Nat),cell.length=256→(l.foldl (fun cell b=>cell.set b.toNat ci) cell).length=256 ∧
  ∀ y:UInt8,(l.foldl (fun cell b=>cell.set b.toNat ci) cell).getD y.toNat 0=if y∈l then ci else cell.getD y.toNat 0
 | [],ci,cell,h=>⟨h,fun y=>by simp⟩
 | b::l,ci,cell,h=>by
  obtain ⟨h1,h2⟩:=qI l ci (cell.set b.toNat ci) (by rw [AaP];exact h)
  rw [Aao]
  refine ⟨h1,fun y=>?_⟩
  rw [h2 y,Ey (by rw [h];exact b.toNat_lt)]
  by_cases hy:y∈l
  ·rw [if_pos hy,if_pos (AaG _ hy)]
  ·rw [if_neg hy]
   by_cases e:y=b
   ·subst e;rw [if_pos rfl,if_pos AaK]
   ·rw [if_neg (fun h=>e (AcI.1 h)),if_neg]
    intro h3;rcases AaV.1 h3 with h3 | h3
    ·exact e h3
    ·exact hy h3
theorem fN:∀ (cls:List (List Nat)) (k:Nat) (cell:List Nat),cell.length=256→(∀ c∈cls,Cj c) →
  ((cls.zipIdx k).foldl (fun cell ci=>(Br ci.1).foldl (fun cell b=>cell.set b.toNat ci.2) cell) cell).length=256 ∧
  ∀ y:UInt8,((∀ j,j<cls.length→Bv (cls.getD j []) y=false)→((cls.zipIdx k).foldl (fun cell ci=>(Br ci.1).foldl (fun cell b=>cell.set b.toNat ci.2) cell) cell).getD y.toNat 0=cell.getD y.toNat 0) ∧
   ∀ i,i<cls.length→Bv (cls.getD i []) y=true→(∀ j,j<cls.length→Bv (cls.getD j []) y=true→j=i) →
    ((cls.zipIdx k).foldl (fun cell ci=>(Br ci.1).foldl (fun cell b=>cell.set b.toNat ci.2) cell) cell).getD y.toNat 0=i+k
 | [],k,cell,h,_=>⟨h,fun y=>⟨fun _=>rfl,fun i hi=>by simp at hi⟩⟩
 | c::cls,k,cell,h,h4=>by
  obtain ⟨g1,g2⟩:=qI (Br c) k cell h
  obtain ⟨h1,h2⟩:=fN cls (k+1) ((Br c).foldl (fun cell b=>cell.set b.toNat k) cell) g1 fun d hd=>h4 d (AaG _ hd)
  rw [List.zipIdx_cons,Aao]
  refine ⟨h1,fun y=>⟨fun hno=>?_,fun i hi hy hu=>?_⟩⟩
  ·rw [(h2 y).1 fun j hj=>hno (j+1) (by simpa using hj),g2 y,if_neg]
   intro hm
   have:=(mem_bytes (h4 c AaK)).1 hm
   rw [show Bv c y=false from hno 0 Di] at this;cases this
  ·cases i with
   | zero =>
    rw [(h2 y).1 fun j hj=>?_,g2 y,if_pos ((mem_bytes (h4 c AaK)).2 hy),Abr]
    cases hb:Bv (cls.getD j []) y with
    | false=>rfl
    | true=>have:=hu (j+1) (by simpa using hj) hb;omega
   | succ i =>
    rw [(h2 y).2 i (by simpa using hi) hy fun j hj hjy=>by have:=hu (j+1) (by simpa using hj) hjy;omega]
    omega
theorem qJ {D:Cy} (h:DOk D):(Av D).cell.length=256:=(fN D.cls 0 _ AaJ h.c4).1
theorem Gy {D:Cy} (h:DOk D) {i:Nat} {y:UInt8} (hi:i<D.cls.length):Bv (D.cls.getD i []) y=decide ((Av D).cell.getD y.toNat 0=i):=by
 obtain ⟨j,hj,hjy⟩:=h.cv y
 have hc:(Av D).cell.getD y.toNat 0=j:=((fN D.cls 0 (List.replicate 256 0) AaJ h.c4).2 y).2 j hj hjy fun k hk hky=>h.un k j y hk hj hky hjy
 rw [hc,AbG,decide_eq_true_eq]
 exact ⟨fun hi'=>h.un j i y hj hi hjy hi',fun e=>by rw [← e];exact hjy⟩
theorem Lr {D:Cy} (h:DOk D) (y:UInt8):(Av D).cell.getD y.toNat 0<D.cls.length:=by
 obtain ⟨j,hj,hjy⟩:=h.cv y
 rw [Gy h hj,decide_eq_true_eq] at hjy
 omega
theorem tab_ok {D:Cy} (h:DOk D):TOk (Av D):=by
 refine ⟨h.n1,h.n2,h.al,qJ h,h.k2,h.row,fun c hc=>?_,fun c hc=>?_⟩
 ·obtain ⟨x,hx,rfl⟩:=AaQ.1 hc
  have hx':x<256:=by rw [← qJ h];exact hx
  have:=Lr h (UInt8.ofNat x)
  rw [show (UInt8.ofNat x).toNat=x by rw [Aav];omega,gD hx] at this
  exact this
 ·obtain ⟨y,hy⟩:=h.ne c hc
  rw [Gy h hc,decide_eq_true_eq] at hy
  exact ⟨y.toNat,y.toNat_lt,hy⟩
def qK (D:Cy) (x:Nat):List Nat:=(List.range D.next.length).map fun s=>step (Av D) s x
theorem col_iff {D:Cy} {x y:Nat}:qK D x=qK D y↔∀ s,s<D.next.length→step (Av D) s x=step (Av D) s y:=by
 unfold qK
 constructor
 ·intro h s hs
  have:=List.map_inj_left.1 h s (Aae.2 hs)
  exact this
 ·intro h
  exact AbX fun s hs=>h s (Aae.1 hs)
structure Can (D:Cy):Prop where
 ok:DOk D
 kl:D.cls.length=(dd (qK D) 256).length
 kk:∀ x,x<256→(Av D).cell.getD x 0=Bc (qK D x) (dd (qK D) 256)
 fo:∀ v,1≤v→v<D.next.length→∃ s x,s<v∧x<256∧step (Av D) s x=v∧∀ s' x',x'<256→LX s' x' s x→step (Av D) s' x'<v
 ds:∀ s s',s<D.next.length→s'<D.next.length→(∀ w,lb (Av D) s w=lb (Av D) s' w)→s=s'
theorem qL {D E:Cy} (hD:Can D) (hE:Can E) (h:∀ w,lb (Av D) 0 w=lb (Av E) 0 w):∀ v,v<D.next.length→v<E.next.length∧∀ w,lb (Av D) v w=lb (Av E) v w:=by
 intro v
 induction v using Nat.strongRecOn with
 | _ v ih =>
  intro hv
  rcases AbP v with rfl | hv0
  ·exact ⟨hE.ok.n1,h⟩
  obtain ⟨s,x,hs,hx,hst,hbe⟩:=hD.fo v hv0 hv
  obtain ⟨hsE,hR⟩:=ih s hs Bm
  have hx8:(UInt8.ofNat x).toNat=x:=by rw [Aav];omega
  have hstep:∀ s x,s<D.next.length→x<256→(∀ w,lb (Av D) s w=lb (Av E) s w)→∀ w,lb (Av D) (step (Av D) s x) w=lb (Av E) (step (Av E) s x) w:=fun s x _ hx hR w=>by
   have hx8:(UInt8.ofNat x).toNat=x:=by rw [Aav];omega
   have:=hR (UInt8.ofNat x::w)
   rw [lb,lb,hx8] at this;exact this
  obtain ⟨v',hv'⟩:∃ v',v'=step (Av E) s x:=⟨_,rfl⟩
  have hvE:v'<E.next.length:=by rw [hv'];exact step_lt (tab_ok hE.ok) hsE hx
  have hRv:∀ w,lb (Av D) v w=lb (Av E) v' w:=by rw [hv',← hst];exact hstep s x Bm hx hR
  have hne:∀ u,u<v→v'≠u:=fun u hu e=>by
   obtain ⟨_,hRu⟩:=ih u hu Bm
   have:=hD.ds v u hv Bm fun w=>by rw [hRv w,hRu w,e]
   omega
  rcases AaM v v' with hlt | hge
  ·exfalso
   obtain ⟨s',x',hs',hx',hst',hbe'⟩:=hE.fo v hv0 Bm
   have hlx:LX s' x' s x:=by
    rcases (by unfold LX;omega:LX s' x' s x∨LX s x s' x'∨(s'=s∧x'=x)) with h1 | h1 | ⟨rfl,rfl⟩
    ·exact h1
    ·have:=hbe' s x hx h1;omega
    ·omega
   have hu:=hbe s' x' hx' hlx
   obtain ⟨_,hRs'⟩:=ih s' Bm Bm
   have h1:=hstep s' x' Bm hx' hRs'
   rw [hst'] at h1
   obtain ⟨huE,hRu⟩:=ih _ hu Bm
   have:=hE.ds _ v huE Bm fun w=>by rw [← hRu w,h1 w]
   omega
  ·have:v'=v:=by
    rcases AaM v' v with h1 | h1
    ·exact absurd rfl (hne v' h1)
    ·omega
   rw [this] at hvE hRv
   exact ⟨hvE,hRv⟩
theorem can_unique {D E:Cy} (hD:Can D) (hE:Can E) (h:∀ w,lb (Av D) 0 w=lb (Av E) 0 w):D=E:=by
 have i1:=qL hD hE h
 have i2:=qL hE hD fun w=>(h w).symm
 have hn:D.next.length=E.next.length:=by
  have h1:D.next.length≤E.next.length:=by
   have:=(i1 (D.next.length-1) (by have:=hD.ok.n1;omega)).1
   omega
  have h2:E.next.length≤D.next.length:=by
   have:=(i2 (E.next.length-1) (by have:=hE.ok.n1;omega)).1
   omega
  omega
 have hst:∀ s x,s<D.next.length→x<256→step (Av D) s x=step (Av E) s x:=fun s x hs hx=>by
  have hx8:(UInt8.ofNat x).toNat=x:=by rw [Aav];omega
  have h1:=step_lt (tab_ok hD.ok) hs hx
  have h2:=step_lt (tab_ok hE.ok) (hn▸hs) hx
  refine hE.ds _ _ (hn▸h1) h2 fun w=>?_
  rw [← (i1 _ h1).2 w]
  have:=(i1 s hs).2 (UInt8.ofNat x::w)
  rw [lb,lb,hx8] at this;exact this
 have hcol:∀ x,x<256→qK D x=qK E x:=fun x hx=>by
  unfold qK;rw [← hn]
  exact AbX fun s hs=>hst s x (Aae.1 hs) hx
 obtain ⟨hdl,hdp⟩:=aL (f:=qK D) (g:=qK E) 256 fun x y hx hy=>by rw [hcol x hx,hcol y hy]
 have hkl:D.cls.length=E.cls.length:=by rw [hD.kl,hE.kl,hdl]
 have hK:∀ x,x<256→(Av D).cell.getD x 0=(Av E).cell.getD x 0:=fun x hx=>by rw [hD.kk x hx,hE.kk x hx,hdp x hx]
 have hcls:D.cls=E.cls:=by
  refine Abb hkl fun i h1 h2=>?_
  refine Xf (hD.ok.c4 _ (AaD h1)) (hE.ok.c4 _ (AaD h2)) fun y=>?_
  have e1:=Gy hD.ok (y:=y) h1
  have e2:=Gy hE.ok (y:=y) h2
  rw [gD h1] at e1;rw [gD h2] at e2
  rw [e1,e2,hK _ y.toNat_lt]
 have hacc:D.acc=E.acc:=by
  refine Abb (by rw [hD.ok.al,hE.ok.al,hn]) fun i h1 h2=>?_
  have:=(i1 i (by rw [← hD.ok.al];exact h1)).2 []
  have e:D.acc.getD i false=E.acc.getD i false:=this
  rwa [gD h1,gD h2] at e
 have hnext:D.next=E.next:=by
  refine Abb hn fun s h1 h2=>?_
  have r1:=hD.ok.row _ (AaD h1)
  have r2:=hE.ok.row _ (AaD h2)
  refine Abb (by rw [r1.1,r2.1,hkl]) fun k h3 h4=>?_
  obtain ⟨y,hy⟩:=hD.ok.ne k (by rw [← r1.1];exact h3)
  rw [Gy hD.ok (by rw [← r1.1];exact h3),decide_eq_true_eq] at hy
  have hy2:=hK _ y.toNat_lt
  rw [hy] at hy2
  have:=hst s y.toNat h1 y.toNat_lt
  unfold step at this
  rw [hy,← hy2] at this
  have e1:(Av D).to s k=D.next[s][k]:=by show (D.next.getD s []).getD k 0=_;rw [gD h1,gD h3]
  have e2:(Av E).to s k=E.next[s][k]:=by show (E.next.getD s []).getD k 0=_;rw [gD h2,gD h4]
  rw [← e1,← e2];exact this
 cases D;cases E
 simp only [Cy.mk.injEq]
 exact ⟨hcls,hnext,hacc⟩
end Cn7
namespace Cn7
theorem canon_ok {t:Tb} (ht:TOk t):∃ D,Eu t=some D∧Can D∧D.next.length≤t.next.length∧∀ w,lb (Av D) 0 w=lb t 0 w:=by
 obtain ⟨L,hL,hrd⟩:=xP ht
 have hc:=hrd.clo
 have hll:L.length≤t.next.length:=len_le hc.nd hc.lt
 obtain ⟨b,r,hbr,S⟩:=refine_all ht hc (f:=t.next.length+2) Bm
 have M:=uA ht b r
 obtain ⟨m,hm⟩:∃ m,m=Ky t b r:=⟨_,rfl⟩
 rw [← hm] at M
 have h60:=ht.n2
 have hsm:qE b L:=fun s hs=>by have:=S.lt s hs;have:=S.le;omega
 have hrL:∀ s∈r,s∈L:=fun s hs=>by
  obtain ⟨i,hi,rfl⟩:=AaQ.1 hs
  have:=(S.rr i hi).1
  rwa [gD hi] at this
 have hstab:∀ s∈L,∀ s'∈L,b.getD s 0=b.getD s' 0→∀ c,c<t.cells→b.getD (t.to s c) 0=b.getD (t.to s' c) 0:=fun s hs s' hs' e c hcc=>by
  refine (S.lang _ (hc.cl s hs c hcc) _ (hc.cl s' hs' c hcc)).2 fun w hw=>?_
  exact (S.lang s hs s' hs').1 e (c::w) fun d hd=>by
   rcases AaV.1 hd with rfl | hd
   ·exact hcc
   ·exact hw d hd
 have hcell:∀ c∈m.cells,c<t.cells:=fun c hcm=>by
  obtain ⟨i,hi,rfl⟩:=AaQ.1 hcm
  exact (M.kc i _ (AaA hi)).1
 have hx:∀ s∈r,∀ c∈m.cells,b.getD (t.to s c) 0<r.length:=fun s hs c hcm=>S.lt _ (hc.cl s (hrL s hs) c (hcell c hcm))
 have hb0:b.getD 0 0<r.length:=S.lt 0 hc.z
 have hci:CI t b r m.cells 0 0 ((List.replicate r.length (-1)).set (b.getD 0 0) 0) [b.getD 0 0]:=by
  refine ⟨by simp,by simp,fun x hx=>by rw [AaE.1 hx];exact hb0,rfl,fun x hx=>?_,by simp,fun j k' _ h=>by unfold LX at h;omega,fun v h1 h2=>by simp at h2;omega⟩
  rw [Ey (by rw [AaJ];exact hb0)]
  by_cases e:x=b.getD 0 0
  ·subst e;rw [if_pos rfl,if_pos Di];simp [Bc]
  ·rw [if_neg e,if_neg (by simpa using e),gD (by rw [AaJ];exact hx),AcM]
 obtain ⟨pl,od,nx,ac,hcn,C,n1,n2,n3⟩:=xV (nx:=[]) (ac:=[]) hx (r.length+1) 0 hci ⟨rfl,rfl,fun j hj=>by omega⟩ Bm
 have hq:∀ x,x<256→∃ hq:Bc (ky t b r x) m.keys<m.cells.length,∀ s∈r,b.getD (t.to s (m.cells.getD (Bc (ky t b r x) m.keys) 0)) 0=b.getD (t.to s (t.cell.getD x 0)) 0:=fun x hx=>by
  have h1:Bc (ky t b r x) m.keys<m.keys.length:=by rw [M.keys];exact Kz _ hx
  have h2:Bc (ky t b r x) m.keys<m.cells.length:=by rw [M.kl];exact h1
  refine ⟨h2,fun s hs=>?_⟩
  obtain ⟨h3,h4⟩:=M.kc _ _ (AaA h2)
  rw [AaA h1,Ec h1] at h4
  injection h4 with h4
  rw [gD h2]
  exact (qH hc hsm hrL h3 (ht.cellAt hx)).1 h4.symm s hs
 have hnl:m.cls.length=m.keys.length:=M.cl
 have hrep:∀ j,j<od.length→r.getD (od.getD j 0) 0∈r∧b.getD (r.getD (od.getD j 0) 0) 0=od.getD j 0:=fun j hj=>by
  have h1:od.getD j 0<r.length:=by rw [gD hj];exact C.lt _ (AaD hj)
  refine ⟨by rw [gD h1];exact AaD _,(S.rr _ h1).2⟩
 have hnext:∀ j x,j<od.length→x<256→b.getD (t.to (r.getD (od.getD j 0) 0) (t.cell.getD x 0)) 0∈od:=fun j x hj hx=>by
  obtain ⟨h1,h2⟩:=hq x hx
  have h3:=(C.inn j _ h1 (.inl hj)).2
  unfold TT at h3
  rw [h2 _ (hrep j hj).1] at h3
  exact h3
 have hod0:od.getD 0 0=b.getD 0 0:=gD_some C.hd
 have hodp:0<od.length:=by
  have:=C.hd
  cases od with
  | nil=>cases this
  | cons a l=>simp
 have hreach:∀ (u:List UInt8),∀ s∈L,b.getD s 0∈od→b.getD (gc t s (u.map fun x=>t.cell.getD x.toNat 0)) 0∈od:=by
  intro u
  induction u with
  | nil=>exact fun s _ h=>h
  | cons x u ih =>
   intro s hs h
   obtain ⟨j,hj,hje⟩:=AaQ.1 h
   have h1:=hrep j hj
   rw [gD hj,hje] at h1
   have h2:=hnext j x.toNat hj x.toNat_lt
   rw [gD hj,hje] at h2
   have h3:=hstab _ (hrL _ h1.1) s hs h1.2 (t.cell.getD x.toNat 0) (ht.cellAt x.toNat_lt)
   rw [h3] at h2
   exact ih _ (hc.cl s hs _ (ht.cellAt x.toNat_lt)) h2
 have hall:∀ s∈L,b.getD s 0∈od:=fun s hs=>by
  obtain ⟨w,hw,rfl⟩:=hrd.rc s hs
  obtain ⟨u,rfl⟩:=aN ht w hw
  refine hreach u 0 hc.z ?_
  rw [← hod0,gD hodp];exact AaD _
 have hpos:∀ {a},a∈od→od.getD (Bc a od) 0=a:=fun {a} ha=>by
  have h1:=Cb.2 ha
  rw [gD h1,Ec h1]
 obtain ⟨D,hD⟩:∃ D:Cy,D=⟨m.cls,nx,ac⟩:=⟨_,rfl⟩
 have hcan:Eu t=some D:=by
  unfold Eu;rw [hL];dsimp only
  have hbr':Pq t L=some (b,r):=hbr
  rw [hbr'];dsimp only
  rw [← hm,hcn,hD]
 have hmem:∀ i (y:UInt8),i<m.cls.length→Bv (m.cls.getD i []) y=decide (Bc (ky t b r y.toNat) m.keys=i):=fun i y hi=>by
  rw [M.mem i y hi,AbG,decide_eq_true_eq,decide_eq_true_eq]
  exact ⟨fun h=>h.2,fun h=>⟨y.toNat_lt,h⟩⟩
 have hrlen:r.length≤od.length:=by
  have:=Ng (l:=List.range r.length) (m:=od) List.nodup_range fun i hi=>by
   have:=S.rr i (Aae.1 hi)
   have h2:=hall _ this.1
   rwa [this.2] at h2
  rwa [AaO] at this
 have hodr:=len_le C.nd C.lt
 have hSle:=S.le
 have hDn:D.next.length=od.length:=by rw [hD];exact n1
 have hok:DOk D:=by
  rw [hD]
  refine ⟨by show 1≤nx.length;omega,by show nx.length≤60000;omega,by show ac.length=nx.length;omega,?_,M.c4,fun i hi=>?_,fun i j y hi hj h1 h2=>?_,fun y=>?_,fun row hrow=>?_⟩
  ·show m.cls.length≤256
   rw [hnl,M.keys];exact aK _ _
  ·obtain ⟨x,h1,h2,_⟩:=Sy (ky t b r) 256 (i:=i) (by rw [← M.keys,← hnl];exact hi)
   refine ⟨UInt8.ofNat x,?_⟩
   have e:(UInt8.ofNat x).toNat=x:=by rw [Aav];omega
   rw [hmem i _ hi,decide_eq_true_eq,e,M.keys];exact h2
  ·rw [hmem i y hi,decide_eq_true_eq] at h1
   rw [hmem j y hj,decide_eq_true_eq] at h2
   omega
  ·have h1:Bc (ky t b r y.toNat) m.keys<m.cls.length:=by rw [hnl,M.keys];exact Kz _ y.toNat_lt
   exact ⟨_,h1,by rw [hmem _ y h1];simp⟩
  ·obtain ⟨j,hj,rfl⟩:=AaQ.1 hrow
   have hj':j<nx.length:=hj
   have h1:=(n3 j Bm).1
   rw [gD hj] at h1
   rw [h1]
   refine ⟨by rw [AaC];show m.cells.length=m.cls.length;rw [M.kl,hnl],fun x hx=>?_⟩
   obtain ⟨c,hcm,rfl⟩:=Aaf.1 hx
   obtain ⟨k,hk,rfl⟩:=AaQ.1 hcm
   have h2:=(C.inn j k hk (.inl Bm)).2
   rw [gD hk] at h2
   show _<nx.length
   rw [n1];exact Cb.2 h2
 have hK:∀ x,x<256→(Av D).cell.getD x 0=Bc (ky t b r x) m.keys:=fun x hx=>by
  have e:(UInt8.ofNat x).toNat=x:=by rw [Aav];omega
  have h1:Bc (ky t b r x) m.keys<m.cls.length:=by rw [hnl,M.keys];exact Kz _ hx
  have h2:=Gy hok (y:=UInt8.ofNat x) (i:=Bc (ky t b r x) m.keys) (by rw [hD];exact h1)
  have h3:Bv (D.cls.getD (Bc (ky t b r x) m.keys) []) (UInt8.ofNat x)=true:=by rw [hD,hmem _ _ h1,e];simp
  rw [h3,e] at h2
  exact of_decide_eq_true h2.symm
 have hstepT:∀ j x,j<od.length→x<256→step (Av D) j x=Bc (TT t b r od j (m.cells.getD (Bc (ky t b r x) m.keys) 0)) od:=fun j x hj hx=>by
  obtain ⟨h1,_⟩:=hq x hx
  unfold step
  rw [hK x hx]
  show (D.next.getD j []).getD _ 0=_
  rw [hD]
  show (nx.getD j []).getD _ 0=_
  rw [(n3 j hj).1,gD (by rw [AaC];exact h1),Aaa,gD h1]
 have hstepB:∀ j x,j<od.length→x<256→step (Av D) j x=Bc (b.getD (t.to (r.getD (od.getD j 0) 0) (t.cell.getD x 0)) 0) od:=fun j x hj hx=>by
  obtain ⟨h1,h2⟩:=hq x hx
  rw [hstepT j x hj hx]
  unfold TT
  rw [h2 _ (hrep j hj).1]
 have hlang:∀ (w:List UInt8) (j s:Nat),j<od.length→s∈L→od.getD j 0=b.getD s 0→lb (Av D) j w=lb t s w:=by
  intro w
  induction w with
  | nil =>
   intro j s hj hs e
   show (Av D).acc.getD j false=t.acc.getD s false
   have h1:(Av D).acc.getD j false=ac.getD j false:=by rw [hD];rfl
   rw [h1,(n3 j hj).2]
   have h2:=hrep j hj
   have h3:=(S.lang _ (hrL _ h2.1) s hs).1 (h2.2.trans e) [] fun c hc=>by cases hc
   exact h3
  | cons x w ih =>
   intro j s hj hs e
   rw [lb,lb]
   have h2:=hrep j hj
   have h3:=hstab _ (hrL _ h2.1) s hs (h2.2.trans e) (t.cell.getD x.toNat 0) (ht.cellAt x.toNat_lt)
   have h4:=hnext j x.toNat hj x.toNat_lt
   have h5:=hstepB j x.toNat hj x.toNat_lt
   refine ih _ _ ?_ (hc.cl s hs _ (ht.cellAt x.toNat_lt)) ?_
   ·rw [h5];exact Cb.2 h4
   ·rw [h5,hpos h4,h3];rfl
 have hkcol:∀ x y,x<256→y<256→(ky t b r x=ky t b r y↔qK D x=qK D y):=fun x y hx hy=>by
  rw [col_iff]
  have h1:(ky t b r x=ky t b r y)↔∀ s∈r,b.getD (t.to s (t.cell.getD x 0)) 0=b.getD (t.to s (t.cell.getD y 0)) 0:=qH hc hsm hrL (ht.cellAt hx) (ht.cellAt hy)
  rw [h1,hDn]
  constructor
  ·intro h s hs
   rw [hstepB s x hs hx,hstepB s y hs hy,h _ (hrep s hs).1]
  ·intro h s hs
   obtain ⟨i,hi,rfl⟩:=AaQ.1 hs
   have h2:=S.rr i hi
   have h3:=hall _ h2.1
   rw [h2.2] at h3
   obtain ⟨j,hj,hje⟩:=AaQ.1 h3
   have h4:=h j hj
   rw [hstepB j x hj hx,hstepB j y hj hy] at h4
   have h5:=qG (hnext j x hj hx) h4
   rw [gD hj,hje,gD hi] at h5
   exact h5
 obtain ⟨d1,d2⟩:=aL (f:=ky t b r) (g:=qK D) 256 hkcol
 refine ⟨D,hcan,⟨hok,?_,fun x hx=>?_,fun v h1 h2=>?_,fun s s' hs hs' hw=>?_⟩,by rw [hDn];omega,fun w=>hlang w 0 0 hodp hc.z hod0⟩
 ·rw [← d1,← M.keys,← hnl,hD]
 ·rw [hK x hx,M.keys,d2 x hx]
 ·rw [hDn] at h2
  obtain ⟨j,k,h3,h4,h5,h6,h7⟩:=C.fo v h1 h2
  obtain ⟨x,h8,h9,h10⟩:=Sy (ky t b r) 256 (i:=k) (by rw [← M.keys,← M.kl];exact h3)
  rw [← M.keys] at h9 h10
  have hj:j<od.length:=by omega
  refine ⟨j,x,h5,h8,by rw [hstepT j x hj h8,h9];exact h6,fun s' x' h11 h12=>?_⟩
  have hs':s'<od.length:=by unfold LX at h12;omega
  rw [hstepT s' x' hs' h11]
  refine h7 s' _ (hq x' h11).1 ?_
  rcases h12 with h12 | ⟨rfl,h12⟩
  ·exact .inl h12
  ·exact .inr ⟨rfl,h10 x' h12⟩
 ·rw [hDn] at hs hs'
  have r1:=hrep s hs
  have r2:=hrep s' hs'
  have e:od.getD s 0=od.getD s' 0:=by
   rw [← r1.2,← r2.2]
   refine (S.lang _ (hrL _ r1.1) _ (hrL _ r2.1)).2 ((dQ ht).2 fun w=>?_)
   rw [← hlang w s _ hs (hrL _ r1.1) r1.2.symm,← hlang w s' _ hs' (hrL _ r2.1) r2.2.symm]
   exact hw w
  rw [gD hs,gD hs'] at e
  exact (List.getElem_inj C.nd).1 e
end Cn7
namespace Cn7
section
variable {α:Type} [DecidableEq α]
def exS (to:α) (st:List α×List Nat):List α×List Nat:=if Bc to st.1<st.1.length then (st.1,st.2++[Bc to st.1]) else (st.1++[to],st.2++[st.1.length])
theorem exS_eq (to:α) (l:List α) (row:List Nat):∃ m,exS to (l,row)=(l++m,row++[Bc to (l++m)])∧to∈l++m∧(l.Nodup→(l++m).Nodup)∧∀ x∈m,x=to:=by
 unfold exS
 by_cases h:Bc to l<l.length
 ·exact ⟨[],by simp [h],by simpa using Cb.1 h,fun h=>by simpa using h,(fun x hx=>by cases hx)⟩
 ·have hno:to∉l:=fun hm=>h (Cb.2 hm)
  refine ⟨[to],by simp [h,Ez hno],by simp,fun hn=>?_,fun x hx=>AaE.1 hx⟩
  rw [AbQ]
  exact ⟨hn,by simp,fun a ha b hb e=>hno Z35⟩
theorem qM {ok:α→Prop} (g:Nat→α):∀ (bs:List Nat) (l:List α) (row:List Nat),l.Nodup→(∀ x∈l,ok x)→(∀ b∈bs,ok (g b)) →
  ∃ m,bs.foldl (fun st b=>exS (g b) st) (l,row)=(l++m,row++bs.map fun b=>Bc (g b) (l++m))∧(l++m).Nodup∧(∀ x∈l++m,ok x)∧(∀ b∈bs,g b∈l++m)∧∀ x∈m,∃ b∈bs,x=g b
 | [],l,row,hn,hl,_=>⟨[],by simp,by simpa using hn,by simpa using hl,(fun b hb=>by cases hb),fun x hx=>by cases hx⟩
 | b::bs,l,row,hn,hl,hg=>by
  obtain ⟨m1,e1,h1,h2,h3⟩:=exS_eq (g b) l row
  obtain ⟨m2,e2,h4,h5,h6,h7⟩:=qM g bs (l++m1) (row++[Bc (g b) (l++m1)]) (h2 hn) (fun x hx=>by
   rcases AaS.1 hx with hx | hx
   ·exact hl x hx
   ·rw [h3 x hx];exact hg b AaK) fun c hc=>hg c (AaG _ hc)
  refine ⟨m1++m2,?_,by rw [← AaI];exact h4,fun x hx=>h5 x (by rw [AaI];exact hx),fun c hc=>?_,fun x hx=>?_⟩
  ·rw [Aao,e1,e2,AaI,AaI]
   simp only [Aar,Abc,AbA]
   rw [← AaI l m1 m2,Fw (m:=m2) h1]
  ·rw [← AaI]
   rcases AaV.1 hc with rfl | hc
   ·exact AaY _ h1
   ·exact h6 c hc
  ·rcases AaS.1 hx with hx | hx
   ·exact ⟨b,AaK,h3 x hx⟩
   ·obtain ⟨c,hc,e⟩:=h7 x hx;exact ⟨c,AaG _ hc,e⟩
structure EI (bytes:List Nat) (nx:α→Nat→α) (ok:α→Prop) (s0:α) (i:Nat) (l:List α) (rows:List (List Nat)):Prop where
 nd:l.Nodup
 ok:∀ x∈l,ok x
 hd:l[0]?=some s0
 il:i≤l.length
 rl:rows.length=i
 rw:∀ j,j<i→∀ s,l[j]?=some s→rows.getD j []=(bytes.map fun b=>Bc (nx s b) l)∧∀ b∈bytes,nx s b∈l
 pr:∀ k,0<k→∀ x,l[k]?=some x→∃ j b y,j<k∧j<i∧l[j]?=some y∧b∈bytes∧x=nx y b
theorem ei_row {bytes:List Nat} {nx:α→Nat→α} {ok:α→Prop} {s0 s:α} {i:Nat} {l:List α} {rows:List (List Nat)} (h:EI bytes nx ok s0 i l rows) (hs:l[i]?=some s) (hok:∀ b∈bytes,ok (nx s b)) :
  ∃ m,bytes.foldl (fun st b=>exS (nx s b) st) (l,[])=(l++m,bytes.map fun b=>Bc (nx s b) (l++m))∧EI bytes nx ok s0 (i+1) (l++m) (rows++[bytes.map fun b=>Bc (nx s b) (l++m)]):=by
 obtain ⟨m,e,h1,h2,h3,h3b⟩:=qM (ok:=ok) (nx s) bytes l [] h.nd h.ok hok
 have hi:i<l.length:=by
  rcases AaM i l.length with h4 | h4
  ·exact h4
  ·rw [AaL h4] at hs;cases hs
 refine ⟨m,by simpa using e,h1,h2,?_,by rw [AaB];omega,by rw [AaB,h.rl];rfl,fun j hj s' hs'=>?_,fun k hk x hx=>?_⟩
 ·have h0:=h.hd
  rw [AaN Bm];exact h0
 ·rcases AaM j i with hji | hji
  ·rw [AaN Bm] at hs'
   obtain ⟨h4,h5⟩:=h.rw j hji s' hs'
   refine ⟨?_,fun b hb=>AaY _ (h5 b hb)⟩
   rw [AaH,AaN (by rw [h.rl];exact hji),← AaH,h4]
   exact AbX fun b hb=>(Fw (h5 b hb)).symm
  ·obtain rfl:j=i:=by omega
   rw [AaN hi,hs] at hs'
   injection hs' with hs';subst hs'
   refine ⟨?_,h3⟩
   rw [AaH,AaW (by rw [h.rl];exact AaR _),h.rl,Aaw];rfl
 ·rcases AaM k l.length with h4 | h4
  ·rw [AaN h4] at hx
   obtain ⟨j,b,y,h5,h6,h7,h8,h9⟩:=h.pr k hk x hx
   exact ⟨j,b,y,h5,by omega,by rw [AaN Bm];exact h7,h8,h9⟩
  ·rw [AaW h4] at hx
   obtain ⟨b,hb,rfl⟩:=h3b x (AaF hx)
   exact ⟨i,b,s,by omega,by omega,by rw [AaN hi];exact hs,hb,rfl⟩
theorem ei_start {bytes:List Nat} {nx:α→Nat→α} {ok:α→Prop} {s0:α} (h:ok s0):EI bytes nx ok s0 0 [s0] [] :=
 ⟨by simp,fun x hx=>by rw [AaE.1 hx];exact h,rfl,by simp,rfl,(fun j hj=>by omega),fun k hk x hx=>by rw [AaL tE] at hx;cases hx⟩
end
theorem xW {nx:Cs→Nat→Cs} {most:Nat} {s:Cs}:∀ (bs:List Nat) (l:List Cs) (row:List Nat),(bs.foldl (fun st b=>exS (nx s b) st) (l,row)).1.length<most →
  bs.foldl (mF nx most s) (some ⟨l,row⟩)=some ⟨(bs.foldl (fun st b=>exS (nx s b) st) (l,row)).1,(bs.foldl (fun st b=>exS (nx s b) st) (l,row)).2⟩
 | [],l,row,_=>rfl
 | b::bs,l,row,h=>by
  have hgrow:∀ (bs:List Nat) (st:List Cs×List Nat),st.1.length≤(bs.foldl (fun st b=>exS (nx s b) st) st).1.length:=by
   intro bs
   induction bs with
   | nil=>exact fun st=>AaR _
   | cons b bs ih =>
    intro st
    refine Aai ?_ (ih _)
    unfold exS;dsimp only;split
    ·exact AaR _
    ·simp
  rw [Aao] at h
  have h1:(exS (nx s b) (l,row)).1.length<most:=Nat.lt_of_le_of_lt (hgrow bs _) h
  rw [Aao,Aao]
  have e:mF nx most s (some ⟨l,row⟩) b=some ⟨(exS (nx s b) (l,row)).1,(exS (nx s b) (l,row)).2⟩:=by
   unfold mF exS at *
   dsimp only at h1 ⊢
   by_cases hp:Bc (nx s b) l<l.length
   ·simp [hp]
   ·rw [if_neg hp] at h1
    simp only [AaB,Aac] at h1
    simp only [hp,if_false]
    rw [if_neg Bm]
  rw [e]
  exact xW bs _ _ h
theorem xX {bytes:List Nat} {nx:Cs→Nat→Cs} {ac:Cs→Bool} {ok:Cs→Prop} {most N:Nat} {s0:Cs} (hok:∀ s,ok s→∀ b∈bytes,ok (nx s b)) (hN:∀ l:List Cs,l.Nodup→(∀ x∈l,ok x)→l.length≤N) (hm:N<most) :
  ∀ (f i:Nat) {l:List Cs} {rows:List (List Nat)} {acc:List Bool},EI bytes nx ok s0 i l rows→acc=(l.take i).map ac→N<f+i →
  ∃ l' rows',qA bytes nx ac most f i l rows acc=some (some (rows',l'.map ac))∧EI bytes nx ok s0 l'.length l' rows'
 | 0,i,l,rows,acc,h,_,hf=>by
  have:=hN l h.nd h.ok;have:=h.il;omega
 | f+1,i,l,rows,acc,h,ha,hf=>by
  rw [qA]
  cases hs:l[i]? with
  | none =>
   have hil:i=l.length:=by
    have:=h.il
    rcases AaM i l.length with h1 | h1
    ·rw [AaA h1] at hs;cases hs
    ·omega
   subst hil
   rw [Aaj] at ha
   exact ⟨l,rows,by rw [ha],h⟩
  | some s =>
   have hi:i<l.length:=by
    rcases AaM i l.length with h4 | h4
    ·exact h4
    ·rw [AaL h4] at hs;cases hs
   obtain ⟨m,e,h1⟩:=ei_row h hs (hok s (h.ok s (AaF hs)))
   have hle:=hN _ h1.nd h1.ok
   dsimp only
   rw [xW bytes l [] (by rw [e];dsimp only;omega),e]
   dsimp only
   refine xX hok hN hm f (i+1) h1 ?_ Bm
   rw [ha,Aay,AaN hi,hs,Option.toList_some,AaU,List.take_append_of_le_length Bm];rfl
structure JOk (a b:Tb) (k:Nat) (st:Jn):Prop where
 keys:st.keys=dd (fun x=>(a.cell.getD x 0,b.cell.getD x 0)) k
 bl:st.bytes.length=st.keys.length
 cl:st.cell.length=k
 cv:∀ x,x<k→st.cell.getD x 0=Bc (a.cell.getD x 0,b.cell.getD x 0) st.keys
 by_:∀ i c:Nat,st.bytes[i]?=some c→c<k∧Bc (a.cell.getD c 0,b.cell.getD c 0) st.keys=i
theorem jn_one {a b:Tb} {k:Nat} {st:Jn} (h:JOk a b k st):JOk a b (k+1) (fK a b st k):=by
 obtain ⟨f,hf⟩:∃ f:Nat→Nat×Nat,f=fun x=>(a.cell.getD x 0,b.cell.getD x 0):=⟨_,rfl⟩
 have hkeys:=h.keys
 have hcv:∀ x,x<k→st.cell.getD x 0=Bc (f x) st.keys:=by rw [hf];exact h.cv
 have hby:∀ i c:Nat,st.bytes[i]?=some c→c<k∧Bc (f c) st.keys=i:=by rw [hf];exact h.by_
 suffices hh:(fK a b st k).keys=dd f (k+1)∧(fK a b st k).bytes.length=(fK a b st k).keys.length∧(fK a b st k).cell.length=k+1∧(∀ x,x<k+1→(fK a b st k).cell.getD x 0=Bc (f x) (fK a b st k).keys) ∧
   ∀ i c:Nat,(fK a b st k).bytes[i]?=some c→c<k+1∧Bc (f c) (fK a b st k).keys=i by
  rw [hf] at hh
  exact ⟨hh.1,hh.2.1,hh.2.2.1,hh.2.2.2.1,hh.2.2.2.2⟩
 rw [← hf] at hkeys
 have hfk:(a.cell.getD k 0,b.cell.getD k 0)=f k:=by rw [hf]
 unfold fK
 rw [hfk]
 have hbl:=h.bl;have hcl:=h.cl
 by_cases hp:Bc (f k) st.keys<st.keys.length
 ·simp only [if_pos hp]
  have hd:st.keys=dd f (k+1):=by rw [dd,if_pos (by rw [← hkeys];exact Cb.1 hp)];exact hkeys
  refine ⟨hd,hbl,by rw [AaB,hcl];rfl,fun x hx=>?_,fun i c hi=>⟨by have:=(hby i c hi).1;omega,(hby i c hi).2⟩⟩
  rcases AaM x k with h3 | h3
  ·rw [AaH,AaN Bm,← AaH];exact hcv x h3
  ·obtain rfl:x=k:=by omega
   rw [AaH,AaW Bm,hcl,Aaw];rfl
 ·simp only [if_neg hp]
  have hno:f k∉dd f k:=by rw [← hkeys];exact fun hm=>hp (Cb.2 hm)
  have hd:st.keys++[f k]=dd f (k+1):=by rw [dd,if_neg hno,← hkeys]
  have hgr:∀ x,x<k→Bc (f x) (st.keys++[f k])=Bc (f x) st.keys:=fun x hx=>Fw (by rw [hkeys];exact (Jy f k).2 ⟨x,hx,rfl⟩)
  have hnw:Bc (f k) (st.keys++[f k])=st.keys.length:=Ez (by rw [hkeys];exact hno)
  refine ⟨hd,by rw [AaB,AaB,hbl];rfl,by rw [AaB,hcl];rfl,fun x hx=>?_,fun i c hi=>?_⟩
  ·rcases AaM x k with h3 | h3
   ·rw [AaH,AaN Bm,← AaH,hgr x h3];exact hcv x h3
   ·obtain rfl:x=k:=by omega
    rw [AaH,AaW Bm,hcl,Aaw,hnw,← hbl];rfl
  ·rcases AaM i st.bytes.length with h3 | h3
   ·rw [AaN h3] at hi
    obtain ⟨h4,h5⟩:=hby i c hi
    exact ⟨by omega,by rw [hgr c h4];exact h5⟩
   ·rw [AaW h3] at hi
    have hi0:i-st.bytes.length=0:=by
     rcases AbP (i-st.bytes.length) with h0 | h0
     ·exact h0
     ·rw [AaL tE] at hi;cases hi
    rw [hi0] at hi;injection hi with hi;subst hi
    exact ⟨by omega,by rw [hnw];omega⟩
theorem xY (a b:Tb):∀ k,JOk a b k ((List.range k).foldl (fK a b) ⟨[],[],[]⟩)
 | 0=>⟨rfl,rfl,rfl,fun x hx=>by omega,(fun i c hi=>by cases hi)⟩
 | k+1=>by
  rw [AbC,Aap]
  exact jn_one (xY a b k)
theorem aO (a b:Tb):JOk a b 256 (Fv a b):=xY a b 256
theorem JOk.le {a b:Tb} {st:Jn} (h:JOk a b 256 st):st.bytes.length≤256:=by rw [h.bl,h.keys];exact aK _ _
theorem JOk.same {a b:Tb} {st:Jn} (h:JOk a b 256 st) {x:Nat} (hx:x<256):∃ hq:st.cell.getD x 0<st.bytes.length,a.cell.getD (st.bytes[st.cell.getD x 0]) 0=a.cell.getD x 0∧b.cell.getD (st.bytes[st.cell.getD x 0]) 0=b.cell.getD x 0:=by
 have h1:=h.cv x hx
 have h2:Bc (a.cell.getD x 0,b.cell.getD x 0) st.keys<st.keys.length:=by rw [h.keys];exact Kz (fun x=>(a.cell.getD x 0,b.cell.getD x 0)) hx
 have hq:st.cell.getD x 0<st.bytes.length:=by rw [h1,h.bl];exact h2
 refine ⟨hq,?_⟩
 obtain ⟨h3,h4⟩:=h.by_ _ _ (AaA hq)
 replace h4:=h4.trans h1
 have h5:(a.cell.getD (st.bytes[st.cell.getD x 0]) 0,b.cell.getD (st.bytes[st.cell.getD x 0]) 0)∈st.keys:=by
  rw [h.keys];exact (Jy (fun x=>(a.cell.getD x 0,b.cell.getD x 0)) 256).2 ⟨_,h3,rfl⟩
 have h6:=qG h5 h4
 exact ⟨congrArg Prod.fst h6,congrArg Prod.snd h6⟩
end Cn7
namespace Cn7
def quoK (b:List Nat) (rows:List (List Nat)) (x:Nat):List UInt8:=rows.map fun r=>UInt8.ofNat (b.getD (r.getD x 0) 0)
structure Qu where
 keys:List (List UInt8)
 cls:List (List Nat)
 least:List Nat
def quN (b:List Nat) (rows:List (List Nat)) (st:Qu) (x:Nat):Qu :=
 if Bc (quoK b rows x) st.keys<st.keys.length then st else ⟨st.keys++[quoK b rows x],st.cls++[[0,0,0,0]],st.least++[x]⟩
def quP (b:List Nat) (rows:List (List Nat)) (st:Qu) (x:Nat):Qu :=
 let s2:=quN b rows st x
 let i:=Bc (quoK b rows x) st.keys
 { s2 with cls:=s2.cls.set i (Df (s2.cls.getD i []) (Xb [UInt8.ofNat x])) }
def quC (b:List Nat) (rows:List (List Nat)):Qu:=(List.range 256).foldl (quP b rows) ⟨[],[],[]⟩
def quRow (b:List Nat) (rows:List (List Nat)) (least:List Nat) (s:Nat):List Nat:=least.map fun x=>b.getD ((rows.getD s []).getD x 0) 0
def quR (b:List Nat) (rows:List (List Nat)) (acc:List Bool) (least:List Nat) (n:Nat):List (List Nat)×List Bool :=
 (List.range rows.length).foldl (fun st s=>(st.1.set (b.getD s 0) (quRow b rows least s),st.2.set (b.getD s 0) (acc.getD s false))) (List.replicate n [],List.replicate n false)
def quoF (b:List Nat) (rows:List (List Nat)) (acc:List Bool) (n:Nat):Cy :=
 let q:=quC b rows
 let r:=quR b rows acc q.least n
 ⟨q.cls,r.1,r.2⟩
def tabA (rows:List (List Nat)) (acc:List Bool):Tb:=⟨List.range 256,256,rows,acc⟩
def minF (rows:List (List Nat)) (acc:List Bool):Option (Option Cy) :=
 match mD (tabA rows acc) (List.range rows.length) (rows.length+2) (rfB (tabA rows acc) (List.range rows.length)) 0 with
 | none=>none
 | some (b,r)=>if 64<r.length then some none else (Eu (Av (quoF b rows acc r.length))).map some
structure QOk (b:List Nat) (rows:List (List Nat)) (k:Nat) (st:Qu):Prop where
 keys:st.keys=dd (quoK b rows) k
 cl:st.cls.length=st.keys.length
 ll:st.least.length=st.keys.length
 c4:∀ c∈st.cls,Cj c
 le:∀ i c:Nat,st.least[i]?=some c→c<k∧st.keys[i]?=some (quoK b rows c)
 mem:∀ i (y:UInt8),i<st.cls.length→Bv (st.cls.getD i []) y=decide (y.toNat<k∧Bc (quoK b rows y.toNat) st.keys=i)
theorem qu_one {b:List Nat} {rows:List (List Nat)} {k:Nat} (hk:k<256) {st:Qu} (h:QOk b rows k st):QOk b rows (k+1) (quP b rows st k):=by
 unfold quP quN
 by_cases hp:Bc (quoK b rows k) st.keys<st.keys.length
 ·simp only [if_pos hp]
  have hd:st.keys=dd (quoK b rows) (k+1):=by rw [dd,if_pos (by rw [← h.keys];exact Cb.1 hp)];exact h.keys
  obtain ⟨u1,u2⟩:=jH hk hd h.cl h.c4 h.mem
  exact ⟨hd,by rw [AaP];exact h.cl,h.ll,u1,fun i c hi=>⟨by have:=(h.le i c hi).1;omega,(h.le i c hi).2⟩,fun i y hi=>u2 i y Z43⟩
 ·simp only [if_neg hp]
  have hno:quoK b rows k∉st.keys:=fun hm=>hp (Cb.2 hm)
  have hno2:quoK b rows k∉dd (quoK b rows) k:=by rw [← h.keys];exact hno
  have hd:st.keys++[quoK b rows k]=dd (quoK b rows) (k+1):=by rw [dd,if_neg hno2,← h.keys]
  have hpe:Bc (quoK b rows k) st.keys=Bc (quoK b rows k) (st.keys++[quoK b rows k]):=by
   rw [Ez hno]
   have:=Wy (quoK b rows k) st.keys
   omega
  have hgr:∀ y,y<k→Bc (quoK b rows y) (st.keys++[quoK b rows k])=Bc (quoK b rows y) st.keys:=fun y hy=>Fw (by rw [h.keys];exact (Jy _ _).2 ⟨y,hy,rfl⟩)
  rw [hpe]
  have hcl:=h.cl
  obtain ⟨u1,u2⟩:=jH (cls:=st.cls++[[0,0,0,0]]) hk hd (by rw [AaB,AaB,hcl];rfl) (fun d hd=>by
    rcases AaS.1 hd with hd | hd
    ·exact h.c4 d hd
    ·rw [AaE.1 hd];exact Ov) (fun i y hi=>by
   rw [AaB,Aac] at hi
   rcases AaM i st.cls.length with h3 | h3
   ·rw [AaH,AaN h3,← AaH,h.mem i y h3,AbG]
    simp only [decide_eq_true_eq]
    exact ⟨fun ⟨h1,h2⟩=>⟨h1,by rw [hgr _ h1];exact h2⟩,fun ⟨h1,h2⟩=>⟨h1,by rw [hgr _ h1] at h2;exact h2⟩⟩
   ·rw [AaH,AaW h3,show i-st.cls.length=0 by omega]
    show Bv noC y=_
    rw [Lq,Eq.comm,decide_eq_false_iff_not]
    rintro ⟨h1,h2⟩
    rw [hgr _ h1] at h2
    have h4:Bc (quoK b rows y.toNat) st.keys<st.keys.length:=by rw [h.keys];exact Kz _ h1
    omega)
  refine ⟨hd,by rw [AaP,AaB,AaB,hcl];rfl,by rw [AaB,AaB,h.ll];rfl,u1,fun i d hi=>?_,fun i y hi=>u2 i y Z43⟩
  rcases AaM i st.least.length with h3 | h3
  ·rw [AaN h3] at hi
   have:=h.le i d hi
   rw [AaN (by rw [← h.ll];exact h3)];exact ⟨by omega,this.2⟩
  ·rw [AaW h3] at hi
   have hi0:i-st.least.length=0:=by
    rcases AbP (i-st.least.length) with h0 | h0
    ·exact h0
    ·rw [AaL tE] at hi;cases hi
   rw [hi0] at hi;injection hi with hi;subst hi
   rw [AaW (by rw [← h.ll];exact h3),← h.ll,hi0]
   exact ⟨by omega,rfl⟩
theorem qu_all (b:List Nat) (rows:List (List Nat)):∀ k,k≤256→QOk b rows k ((List.range k).foldl (quP b rows) ⟨[],[],[]⟩)
 | 0,_=>⟨rfl,rfl,rfl,(fun c hc=>by cases hc),(fun i c hi=>by cases hi),fun i y hi=>by simp at hi⟩
 | k+1,hk=>by
  rw [AbC,Aap]
  exact qu_one Bm (qu_all b rows k Bm)
theorem quC_ok (b:List Nat) (rows:List (List Nat)):QOk b rows 256 (quC b rows):=qu_all b rows 256 (AaR _)
theorem xZ {b:List Nat} {rows:List (List Nat)} {x y:Nat} (h:∀ r∈rows,b.getD (r.getD x 0) 0<256∧b.getD (r.getD y 0) 0<256):quoK b rows x=quoK b rows y↔∀ r∈rows,b.getD (r.getD x 0) 0=b.getD (r.getD y 0) 0:=by
 unfold quoK
 rw [List.map_inj_left]
 exact ⟨fun e r hr=>by have:=nG (e r hr);have:=h r hr;omega,fun e r hr=>by rw [e r hr]⟩
theorem yA {b:List Nat} {rows:List (List Nat)} {acc:List Bool} {least:List Nat} {n:Nat} (hlt:∀ s,s<rows.length→b.getD s 0<n)
  (hst:∀ s s',s<rows.length→s'<rows.length→b.getD s 0=b.getD s' 0→quRow b rows least s=quRow b rows least s'∧acc.getD s false=acc.getD s' false):∀ k,k≤rows.length →
  let st:=(List.range k).foldl (fun st s=>(st.1.set (b.getD s 0) (quRow b rows least s),st.2.set (b.getD s 0) (acc.getD s false))) (List.replicate n [],List.replicate n false)
  st.1.length=n∧st.2.length=n∧∀ s,s<k→st.1.getD (b.getD s 0) []=quRow b rows least s∧st.2.getD (b.getD s 0) false=acc.getD s false
 | 0,_=>⟨by simp,by simp,fun s hs=>by omega⟩
 | k+1,hk=>by
  obtain ⟨h1,h2,h3⟩:=yA hlt hst k Bm
  rw [AbC,Aap,Aao,List.foldl_nil]
  generalize (List.range k).foldl (fun (st:List (List Nat)×List Bool) s=>(st.1.set (b.getD s 0) (quRow b rows least s),st.2.set (b.getD s 0) (acc.getD s false))) (List.replicate n [],List.replicate n false)=S at h1 h2 h3
  have hkn:=hlt k Bm
  refine ⟨by rw [AaP];exact h1,by rw [AaP];exact h2,fun s hs=>?_⟩
  dsimp only
  rw [Ey Bm,Ey Bm]
  by_cases e:b.getD s 0=b.getD k 0
  ·rw [if_pos e,if_pos e]
   have:=hst k s Bm Bm e.symm
   exact this
  ·rw [if_neg e,if_neg e]
   rcases AaM s k with h4 | h4
   ·exact h3 s h4
   ·obtain rfl:s=k:=by omega
    exact absurd rfl e
theorem Nh {k x:Nat} (h:x<k):(List.range k).getD x 0=x:=by rw [gD (by rw [AaO];exact h),Abs]
theorem Uo {rows:List (List Nat)} {acc:List Bool} {s x:Nat} (hx:x<256):step (tabA rows acc) s x=(rows.getD s []).getD x 0:=by
 unfold step Tb.to tabA;dsimp only
 rw [Nh hx]
structure AOk (rows:List (List Nat)) (acc:List Bool):Prop where
 n1:1≤rows.length
 n2:rows.length≤60000
 al:acc.length=rows.length
 row:∀ r∈rows,r.length=256∧∀ x∈r,x<rows.length
theorem Up (rows:List (List Nat)) (acc:List Bool):(tabA rows acc).cell=List.range 256:=by simp only [tabA]
theorem AOk.tok {rows:List (List Nat)} {acc:List Bool} (h:AOk rows acc):TOk (tabA rows acc):=by
 have e:(tabA rows acc).cells=256:=rfl
 refine ⟨h.n1,h.n2,h.al,?_,?_,h.row,fun c hc=>?_,fun c hc=>?_⟩
 ·rw [Up,AaO]
 ·rw [e];exact AaR _
 ·rw [Up] at hc;rw [e];exact Aae.1 hc
 ·rw [e] at hc;exact ⟨c,hc,by rw [Up];exact Nh hc⟩
theorem quo_ok {rows:List (List Nat)} {acc:List Bool} {b r:List Nat} (h:AOk rows acc) (S:Stb (tabA rows acc) (List.range rows.length) b r) (hr:r.length≤64) :
  DOk (quoF b rows acc r.length)∧(quoF b rows acc r.length).next.length=r.length∧∀ (w:List UInt8) s,s<rows.length→lb (Av (quoF b rows acc r.length)) (b.getD s 0) w=lb (tabA rows acc) s w:=by
 have ht:=h.tok
 have hc:Clo (tabA rows acc) (List.range rows.length):=clo_all ht
 have Q:=quC_ok b rows
 obtain ⟨q,hq⟩:∃ q,q=quC b rows:=⟨_,rfl⟩
 rw [← hq] at Q
 have hmr:∀ {s},s<rows.length→s∈List.range rows.length:=fun hs=>Aae.2 hs
 have hlt:∀ s,s<rows.length→b.getD s 0<r.length:=fun s hs=>S.lt s (hmr hs)
 have hto:∀ s x,s<rows.length→x<256→(rows.getD s []).getD x 0<rows.length:=fun s x hs hx=>by
  have:=step_lt ht (s:=s) hs hx
  rwa [Uo hx] at this
 have hstab:∀ s s' x,s<rows.length→s'<rows.length→x<256→b.getD s 0=b.getD s' 0→b.getD ((rows.getD s []).getD x 0) 0=b.getD ((rows.getD s' []).getD x 0) 0:=fun s s' x hs hs' hx e=>by
  rw [← Uo (acc:=acc) hx,← Uo (acc:=acc) hx]
  refine (S.lang _ (hmr (step_lt ht hs hx)) _ (hmr (step_lt ht hs' hx))).2 fun w hw=>?_
  have hcc:(tabA rows acc).cell.getD x 0<(tabA rows acc).cells:=ht.cellAt hx
  exact (S.lang s (hmr hs) s' (hmr hs')).1 e ((tabA rows acc).cell.getD x 0::w) fun d hd=>by
   rcases AaV.1 hd with rfl | hd
   ·exact hcc
   ·exact hw d hd
 have hacc:∀ s s',s<rows.length→s'<rows.length→b.getD s 0=b.getD s' 0→acc.getD s false=acc.getD s' false:=fun s s' hs hs' e =>
  (S.lang s (hmr hs) s' (hmr hs')).1 e [] fun c hc=>by cases hc
 have hl256:∀ x∈q.least,x<256:=fun x hx=>by
  obtain ⟨i,hi,rfl⟩:=AaQ.1 hx
  exact (Q.le i _ (AaA hi)).1
 have hR:=yA (b:=b) (rows:=rows) (acc:=acc) (least:=q.least) hlt (fun s s' hs hs' e=>⟨by
  unfold quRow
  exact AbX fun x hx=>hstab s s' x hs hs' (hl256 x hx) e,hacc s s' hs hs' e⟩) rows.length (AaR _)
 obtain ⟨R,hRe⟩:∃ R,R=quR b rows acc q.least r.length:=⟨_,rfl⟩
 have hR':R.1.length=r.length∧R.2.length=r.length∧∀ s,s<rows.length→R.1.getD (b.getD s 0) []=quRow b rows q.least s∧R.2.getD (b.getD s 0) false=acc.getD s false:=by
  rw [hRe];exact hR
 obtain ⟨r1,r2,r3⟩:=hR'
 have hF:quoF b rows acc r.length=⟨q.cls,R.1,R.2⟩:=by unfold quoF;rw [← hq,hRe]
 rw [hF]
 have hrep:∀ i,i<r.length→∃ s,s<rows.length∧b.getD s 0=i:=fun i hi=>⟨_,Aae.1 (S.rr i hi).1,(S.rr i hi).2⟩
 have hnl:=Q.cl
 have hmem:∀ i (y:UInt8),i<q.cls.length→Bv (q.cls.getD i []) y=decide (Bc (quoK b rows y.toNat) q.keys=i):=fun i y hi=>by
  rw [Q.mem i y hi,AbG,decide_eq_true_eq,decide_eq_true_eq]
  exact ⟨fun h=>h.2,fun h=>⟨y.toNat_lt,h⟩⟩
 have hrp:1≤r.length:=Nat.lt_of_le_of_lt (Aas _) (hlt 0 h.n1)
 have hok:DOk ⟨q.cls,R.1,R.2⟩:=by
  refine ⟨by show 1≤R.1.length;omega,by show R.1.length≤60000;omega,by show R.2.length=R.1.length;omega,?_,Q.c4,fun i hi=>?_,fun i j y hi hj h1 h2=>?_,fun y=>?_,fun row hrow=>?_⟩
  ·show q.cls.length≤256
   rw [hnl,Q.keys];exact aK _ _
  ·obtain ⟨x,h1,h2,_⟩:=Sy (quoK b rows) 256 (i:=i) (by rw [← Q.keys,← hnl];exact hi)
   refine ⟨UInt8.ofNat x,?_⟩
   have e:(UInt8.ofNat x).toNat=x:=by rw [Aav];omega
   rw [hmem i _ hi,decide_eq_true_eq,e,Q.keys];exact h2
  ·rw [hmem i y hi,decide_eq_true_eq] at h1
   rw [hmem j y hj,decide_eq_true_eq] at h2
   omega
  ·have h1:Bc (quoK b rows y.toNat) q.keys<q.cls.length:=by rw [hnl,Q.keys];exact Kz _ y.toNat_lt
   exact ⟨_,h1,by rw [hmem _ y h1];simp⟩
  ·obtain ⟨i,hi,rfl⟩:=AaQ.1 hrow
   obtain ⟨s,hs,hsi⟩:=hrep i (by rw [← r1];exact hi)
   have h1:=(r3 s hs).1
   rw [hsi,gD hi] at h1
   rw [h1]
   refine ⟨by unfold quRow;rw [AaC];show q.least.length=q.cls.length;rw [Q.ll,hnl],fun z hz=>?_⟩
   obtain ⟨x,hx,rfl⟩:=Aaf.1 hz
   show _<R.1.length
   rw [r1];exact hlt _ (hto s x hs (hl256 x hx))
 have hK:∀ x,x<256→(Av ⟨q.cls,R.1,R.2⟩).cell.getD x 0=Bc (quoK b rows x) q.keys:=fun x hx=>by
  have e:(UInt8.ofNat x).toNat=x:=by rw [Aav];omega
  have h1:Bc (quoK b rows x) q.keys<q.cls.length:=by rw [hnl,Q.keys];exact Kz _ hx
  have h2:=Gy hok (y:=UInt8.ofNat x) (i:=Bc (quoK b rows x) q.keys) h1
  have h3:Bv (q.cls.getD (Bc (quoK b rows x) q.keys) []) (UInt8.ofNat x)=true:=by rw [hmem _ _ h1,e];simp
  have h2':Bv (q.cls.getD (Bc (quoK b rows x) q.keys) []) (UInt8.ofNat x)=_:=h2
  rw [h3,e] at h2'
  exact of_decide_eq_true h2'.symm
 have hstep:∀ s x,s<rows.length→x<256→step (Av ⟨q.cls,R.1,R.2⟩) (b.getD s 0) x=b.getD ((rows.getD s []).getD x 0) 0:=fun s x hs hx=>by
  unfold step
  rw [hK x hx]
  show (R.1.getD (b.getD s 0) []).getD _ 0=_
  rw [(r3 s hs).1]
  have h1:Bc (quoK b rows x) q.keys<q.keys.length:=by rw [Q.keys];exact Kz _ hx
  have h2:Bc (quoK b rows x) q.keys<q.least.length:=by rw [Q.ll];exact h1
  unfold quRow
  rw [gD (by rw [AaC];exact h2),Aaa]
  obtain ⟨h3,h4⟩:=Q.le _ _ (AaA h2)
  rw [AaA h1,Ec h1] at h4
  injection h4 with h4
  have h5:=(xZ (b:=b) (rows:=rows) (x:=x) (y:=q.least[Bc (quoK b rows x) q.keys]) fun row hrow=>by
   obtain ⟨j,hj,rfl⟩:=AaQ.1 hrow
   have e1:=hlt _ (hto j x hj hx)
   have e2:=hlt _ (hto j _ hj h3)
   rw [gD hj] at e1 e2
   omega).1 h4 (rows.getD s []) (by rw [gD hs];exact AaD _)
  exact h5.symm
 refine ⟨hok,r1,fun w=>?_⟩
 induction w with
 | nil =>
  intro s hs
  exact (r3 s hs).2
 | cons x w ih =>
  intro s hs
  rw [lb,lb,hstep s _ hs x.toNat_lt,Uo x.toNat_lt]
  exact ih _ (hto s _ hs x.toNat_lt)
def aft (d:Tb) (q:Nat) (w:List UInt8):Nat:=w.foldl (fun s b=>step d s b.toNat) q
theorem aft_lt {d:Tb} (hd:TOk d):∀ (w:List UInt8) {q:Nat},q<d.next.length→aft d q w<d.next.length
 | [],_,h=>h
 | x::w,q,h=>aft_lt hd w (q:=step d q x.toNat) (step_lt hd h x.toNat_lt)
theorem Qt {d:Tb}:∀ (u w:List UInt8) (q:Nat),lb d q (u++w)=lb d (aft d q u) w
 | [],_,_=>rfl
 | x::u,w,q=>by rw [Abc,lb];exact Qt u w _
theorem lb_end {d:Tb} (u:List UInt8) (q:Nat):lb d q u=d.acc.getD (aft d q u) false:=by
 have:=Qt (d:=d) u [] q
 rw [AaX] at this;exact this
def LimOf (L:List UInt8→Bool) (R:Option Cy):Prop:=∃ D,Can D∧(∀ w,lb (Av D) 0 w=L w)∧R=if D.next.length≤64 then some D else none
theorem LimOf.some {L:List UInt8→Bool} {D:Cy} (h:LimOf L (some D)):Can D∧D.next.length≤64∧∀ w,lb (Av D) 0 w=L w:=by
 obtain ⟨E,h1,h2,h3⟩:=h
 split at h3
 ·rename_i h4
  injection h3 with h3
  subst h3
  exact ⟨h1,h4,h2⟩
 ·cases h3
theorem LimOf.congr {L M:List UInt8→Bool} {R:Option Cy} (h:LimOf L R) (e:∀ w,L w=M w):LimOf M R:=by
 obtain ⟨D,d1,d2,d3⟩:=h
 exact ⟨D,d1,fun w=>(d2 w).trans (e w),d3⟩
theorem LimOf.unique {L M:List UInt8→Bool} {R S:Option Cy} (h:LimOf L R) (h2:LimOf M S) (e:∀ w,L w=M w):R=S:=by
 obtain ⟨D,d1,d2,d3⟩:=h
 obtain ⟨E,e1,e2,e3⟩:=h2
 have:D=E:=can_unique d1 e1 fun w=>by rw [d2 w,e w,e2 w]
 rw [d3,e3,this]
theorem min_ok {rows:List (List Nat)} {acc:List Bool} (h:AOk rows acc) (hrc:∀ s,s<rows.length→∃ w,aft (tabA rows acc) 0 w=s):∃ R,minF rows acc=some R∧(rows.length≤64→R≠none)∧LimOf (lb (tabA rows acc) 0) R:=by
 have ht:=h.tok
 have hc:Clo (tabA rows acc) (List.range rows.length):=clo_all ht
 obtain ⟨b,r,hbr,S⟩:=refine_all ht hc (f:=rows.length+2) (by rw [AaO];omega)
 unfold minF
 rw [hbr]
 dsimp only
 have hle:=S.le
 rw [AaO] at hle
 by_cases hr:64<r.length
 ·rw [if_pos hr]
  refine ⟨none,rfl,(fun h=>by omega),?_⟩
  obtain ⟨D,_,hcan,_,hl⟩:=canon_ok ht
  refine ⟨D,hcan,hl,?_⟩
  have hDt:=tab_ok hcan.ok
  have hw:∀ i,i<r.length→∃ w,aft (tabA rows acc) 0 w=r.getD i 0:=fun i hi=>hrc _ (Aae.1 (S.rr i hi).1)
  have key:∀ n,n≤r.length→∃ l:List Nat,l.length=n∧(∀ i,i<n→∃ w,aft (tabA rows acc) 0 w=r.getD i 0∧l[i]?=some (aft (Av D) 0 w)):=by
   intro n
   induction n with
   | zero=>exact fun _=>⟨[],rfl,fun i hi=>by omega⟩
   | succ n ih =>
    intro hn
    obtain ⟨l,h1,h2⟩:=ih Bm
    obtain ⟨w,h3⟩:=hw n Bm
    refine ⟨l++[aft (Av D) 0 w],by rw [AaB,h1];rfl,fun i hi=>?_⟩
    rcases AaM i n with h4 | h4
    ·obtain ⟨v,h5,h6⟩:=h2 i h4
     exact ⟨v,h5,by rw [AaN Bm];exact h6⟩
    ·obtain rfl:i=n:=by omega
     exact ⟨w,h3,by rw [AaW Bm,h1,Aaw];rfl⟩
  obtain ⟨l,h1,h2⟩:=key r.length (AaR _)
  have h3:=len_le (l:=l) (n:=D.next.length) (by
   rw [List.Nodup,AcR]
   intro i j hi hj hij e
   obtain ⟨v,v1,v2⟩:=h2 i Bm
   obtain ⟨w,w1,w2⟩:=h2 j Bm
   rw [AaA hi] at v2
   rw [AaA hj] at w2
   injection v2 with v2;injection w2 with w2
   have r1:=S.rr i Bm;have r2:=S.rr j Bm
   have e2:b.getD (r.getD i 0) 0=b.getD (r.getD j 0) 0:=by
    refine (S.lang _ r1.1 _ r2.1).2 ((dQ ht).2 fun u=>?_)
    rw [← v1,← w1,← Qt,← Qt,← hl,← hl,Qt,Qt,← v2,← w2,e]
   rw [r1.2,r2.2] at e2
   omega) fun x hx=>by
   obtain ⟨i,hi,rfl⟩:=AaQ.1 hx
   obtain ⟨v,v1,v2⟩:=h2 i Bm
   rw [AaA hi] at v2
   injection v2 with v2
   rw [v2]
   exact aft_lt hDt v hcan.ok.n1
  rw [if_neg Bm]
 ·rw [if_neg hr]
  obtain ⟨hok,hn,hl⟩:=quo_ok h S Bm
  obtain ⟨D,hD,hcan,hDn,hlang⟩:=canon_ok (tab_ok hok)
  rw [hD]
  have hDn':D.next.length≤r.length:=Aai hDn (by show (quoF b rows acc r.length).next.length≤_;omega)
  refine ⟨some D,rfl,(fun _=>by simp),D,hcan,fun w=>?_,by rw [if_pos Bm]⟩
  have h0:r.getD 0 0=0:=by
   rw [S.hd]
   have:=h.n1
   cases hl2:rows.length with
   | zero=>omega
   | succ n=>rw [List.range_succ_eq_map];rfl
  have hrp:0<r.length:=Nat.lt_of_le_of_lt (Aas _) (S.lt 0 (Aae.2 h.n1))
  have h1:=(S.rr 0 hrp).2
  rw [h0] at h1
  rw [hlang w,← hl w 0 h.n1,h1]
end Cn7
structure Pc where
 copy:Bool
 b:UInt8
deriving DecidableEq
structure Mv where
 to:Int
 out:List Pc
deriving DecidableEq
structure Tr where
 cls:List (List Nat)
 moves:List (List Mv)
 final:List Bool
 ends:List (List UInt8)
def Gt (l:List Pc) (x:UInt8):List UInt8:=l.map fun p=>if p.copy=true then x else p.b
def Cv (l:List (List Nat)):List Nat:=(l.zipIdx).foldl (fun cell ci=>(Br ci.1).foldl (fun cell b=>cell.set b.toNat ci.2) cell) (List.replicate 256 0)
def noMv:Mv:=⟨0,[]⟩
def Dv (t:Tr) (p:Nat) (x:UInt8):Mv:=(t.moves.getD p []).getD ((Cv t.cls).getD x.toNat 0) noMv
def Bo (t:Tr):Nat→List UInt8→Option (List UInt8)
 | p,[]=>if t.final.getD p false=true then some (t.ends.getD p []) else none
 | p,x::w=>if (Dv t p x).to<0 then none else (Bo t (Dv t p x).to.toNat w).map (Gt (Dv t p x).out x++·)
def uB (p:Pc):Bool:=!(p.copy && decide (¬ p.b=0))
def nI (n:Nat) (m:Mv):Bool:=decide (-1≤m.to) && (decide (m.to<n) && (decide (m.out.length≤8) && ((decide (0≤m.to) || decide (m.out.length≤0)) && m.out.all uB)))
namespace Cn7
def PartOk (cls:List (List Nat)):Prop:=DOk ⟨cls,[List.replicate cls.length 0],[false]⟩
structure TrOk (t:Tr):Prop where
 part:PartOk t.cls
 n1:1≤t.moves.length
 n2:t.moves.length≤64
 fl:t.final.length=t.moves.length
 el:t.ends.length=t.moves.length
 row:∀ r∈t.moves,r.length=t.cls.length∧∀ m∈r,nI t.moves.length m=true
 en:∀ s,s<t.moves.length→(t.ends.getD s []).length≤8∧(t.final.getD s false=true∨(t.ends.getD s []).length≤0)
theorem mvB_iff {n:Nat} {m:Mv}:nI n m=true↔-1≤m.to∧m.to<n∧m.out.length≤8∧(0≤m.to∨m.out.length≤0)∧m.out.all uB=true:=by
 unfold nI
 simp only [Aah,Abv,decide_eq_true_eq]
theorem TrOk.cell {t:Tr} (h:TrOk t) (x:UInt8):(Cv t.cls).getD x.toNat 0<t.cls.length:=Lr h.part x
theorem TrOk.mv {t:Tr} (h:TrOk t) {p:Nat} (hp:p<t.moves.length) (x:UInt8) : -1≤(Dv t p x).to∧(Dv t p x).to<t.moves.length∧(Dv t p x).out.length≤8:=by
 have hr:=h.row _ (AaD hp)
 unfold Dv
 rw [gD hp,gD (by rw [hr.1];exact h.cell x)]
 have:=mvB_iff.1 (hr.2 _ (AaD (by rw [hr.1];exact h.cell x)))
 exact ⟨this.1,this.2.1,this.2.2.1⟩
section
variable {α:Type} [DecidableEq α]
def exA (bytes:List Nat) (nx:α→Nat→α):Nat→Nat→List α→List (List Nat)→Option (List α×List (List Nat))
 | 0,_,_,_=>none
 | f+1,i,l,rows =>
  match l[i]? with
  | none=>some (l,rows)
  | some s=>exA bytes nx f (i+1) (bytes.foldl (fun st b=>exS (nx s b) st) (l,[])).1 (rows++[(bytes.foldl (fun st b=>exS (nx s b) st) (l,[])).2])
theorem exA_run {bytes:List Nat} {nx:α→Nat→α} {ok:α→Prop} {N:Nat} {s0:α} (hok:∀ s,ok s→∀ b∈bytes,ok (nx s b)) (hN:∀ l:List α,l.Nodup→(∀ x∈l,ok x)→l.length≤N) :
  ∀ (f i:Nat) {l:List α} {rows:List (List Nat)},EI bytes nx ok s0 i l rows→N<f+i→∃ l' rows',exA bytes nx f i l rows=some (l',rows')∧EI bytes nx ok s0 l'.length l' rows'
 | 0,i,l,rows,h,hf=>by
  have:=hN l h.nd h.ok;have:=h.il;omega
 | f+1,i,l,rows,h,hf=>by
  rw [exA]
  cases hs:l[i]? with
  | none =>
   have hil:i=l.length:=by
    have:=h.il
    rcases AaM i l.length with h1 | h1
    ·rw [AaA h1] at hs;cases hs
    ·omega
   subst hil
   exact ⟨l,rows,rfl,h⟩
  | some s =>
   obtain ⟨m,e,h1⟩:=ei_row h hs (hok s (h.ok s (AaF hs)))
   dsimp only
   rw [e]
   exact exA_run hok hN f (i+1) h1 Bm
theorem ei_rows {nx:α→Nat→α} {ok:α→Prop} {s0:α} {l:List α} {rows:List (List Nat)} (h:EI (List.range 256) nx ok s0 l.length l rows) (hn:l.length≤60000) (ac:α→Bool):AOk rows (l.map ac):=by
 have hl0:0<l.length:=by
  have:=h.hd
  rcases AbP l.length with h0 | h0
  ·rw [AaL Bm] at this;cases this
  ·exact h0
 refine ⟨by rw [h.rl];exact hl0,by rw [h.rl];exact hn,by rw [AaC,h.rl],fun r hr=>?_⟩
 obtain ⟨j,hj,rfl⟩:=AaQ.1 hr
 have hjl:j<l.length:=by rw [← h.rl];exact hj
 obtain ⟨h1,h2⟩:=h.rw j hjl _ (AaA hjl)
 rw [gD hj] at h1
 rw [h1]
 refine ⟨by rw [AaC,AaO],fun x hx=>?_⟩
 obtain ⟨b,hb,rfl⟩:=Aaf.1 hx
 rw [h.rl];exact Cb.2 (h2 b hb)
theorem ei_lang {nx:α→Nat→α} {ok:α→Prop} {s0:α} {l:List α} {rows:List (List Nat)} (h:EI (List.range 256) nx ok s0 l.length l rows) {ac:α→Bool} {sem:α→List UInt8→Bool}
  (h0:∀ s,ok s→sem s []=ac s) (h1:∀ s,ok s→∀ (x:UInt8) w,sem s (x::w)=sem (nx s x.toNat) w):∀ (w:List UInt8) i s,l[i]?=some s→lb (tabA rows (l.map ac)) i w=sem s w
 | [],i,s,hi=>by
  rw [h0 s (h.ok s (AaF hi))]
  show (l.map ac).getD i false=_
  rw [AaH,Aak,hi];rfl
 | x::w,i,s,hi=>by
  have hil:i<l.length:=by
   rcases AaM i l.length with h4 | h4
   ·exact h4
   ·rw [AaL h4] at hi;cases hi
  obtain ⟨h2,h3⟩:=h.rw i hil s hi
  have hx:=x.toNat_lt
  have h4:=h3 x.toNat (Aae.2 hx)
  have h5:Bc (nx s x.toNat) l<l.length:=Cb.2 h4
  rw [h1 s (h.ok s (AaF hi)),lb,Uo hx,h2,gD (by rw [AaC,AaO];exact hx),Aaa,Abs]
  exact ei_lang h h0 h1 w _ _ (by rw [AaA h5,Ec h5])
theorem ei_reach {nx:α→Nat→α} {ok:α→Prop} {s0:α} {l:List α} {rows:List (List Nat)} (h:EI (List.range 256) nx ok s0 l.length l rows) (acc:List Bool):∀ i,i<l.length→∃ w,aft (tabA rows acc) 0 w=i:=by
 intro i
 induction i using Nat.strongRecOn with
 | _ i ih =>
  intro hi
  rcases AbP i with rfl | h0
  ·exact ⟨[],rfl⟩
  obtain ⟨j,b,y,h1,h2,h3,h4,h5⟩:=h.pr i h0 _ (AaA hi)
  obtain ⟨w,hw⟩:=ih j h1 h2
  have hb:=Aae.1 h4
  refine ⟨w++[UInt8.ofNat b],?_⟩
  have e:(UInt8.ofNat b).toNat=b:=by rw [Aav];omega
  unfold aft at *
  rw [Aap,hw,Aao,List.foldl_nil,e,Uo hb]
  obtain ⟨h6,h7⟩:=h.rw j h2 y h3
  rw [h6,gD (by rw [AaC,AaO];exact hb),Aaa,Abs,← h5]
  exact posK_at h.nd hi
end
end Cn7
open Cn7
abbrev PQ:=Int×Int
def Ni (t:Tr) (d:Tb) (s:PQ) (x:Nat):PQ :=
 if 0≤s.1∧0≤(Dv t s.1.toNat (UInt8.ofNat x)).to then ((Dv t s.1.toNat (UInt8.ofNat x)).to,(aft d s.2.toNat (Gt (Dv t s.1.toNat (UInt8.ofNat x)).out (UInt8.ofNat x)):Int)) else (-1,-1)
def Jz (t:Tr) (d:Tb) (s:PQ):Bool:=decide (0≤s.1) && (t.final.getD s.1.toNat false && d.acc.getD (aft d s.2.toNat (t.ends.getD s.1.toNat [])) false)
def nJ (t:Tr) (d:Cy):Option (Option Cy) :=
 match exA (List.range 256) (Ni t (Av d)) 5000 0 [(0,0)] [] with
 | none=>none
 | some (l,rows)=>minF rows (l.map (Jz t (Av d)))
namespace Cn7
def preOk (t:Tr) (d:Cy) (s:PQ):Prop:=s=(-1,-1)∨(0≤s.1∧s.1<t.moves.length∧0≤s.2∧s.2<d.next.length)
theorem nodup_map {α:Type} {f:α→Nat} {l:List α} (hn:l.Nodup) (h:∀ x∈l,∀ y∈l,f x=f y→x=y):(l.map f).Nodup:=by
 rw [List.Nodup,List.pairwise_map]
 exact hn.imp_of_mem fun {a b} ha hb hne e=>hne (h a ha b hb e)
theorem pre_le {t:Tr} {d:Cy} (l:List PQ) (hn:l.Nodup) (h:∀ x∈l,preOk t d x):l.length≤t.moves.length*d.next.length+1:=by
 have h2:=len_le (l:=l.map fun s=>if s.1<0 then t.moves.length*d.next.length else s.1.toNat*d.next.length+s.2.toNat) (n:=t.moves.length*d.next.length+1)
  (nodup_map hn fun x hx y hy e=>by
   have key:∀ p q:Nat,p<t.moves.length→q<d.next.length→p*d.next.length+q<t.moves.length*d.next.length:=fun p q hp hq=>by
    have h1:(p+1)*d.next.length≤t.moves.length*d.next.length:=AbL _ hp
    rw [AcN,AcE] at h1;omega
   rcases h x hx with rfl | ⟨a1,a2,a3,a4⟩<;>rcases h y hy with rfl | ⟨b1,b2,b3,b4⟩
   ·rfl
   ·have:=key y.1.toNat y.2.toNat Bm Bm
    simp only [show ((-1,-1):PQ).1<0 from by decide,if_true] at e
    rw [if_neg Bm] at e;omega
   ·have:=key x.1.toNat x.2.toNat Bm Bm
    simp only [show ((-1,-1):PQ).1<0 from by decide,if_true] at e
    rw [if_neg Bm] at e;omega
   ·rw [if_neg Bm,if_neg Bm] at e
    have e1:x.1.toNat=y.1.toNat:=by
     have f1:(x.1.toNat*d.next.length+x.2.toNat) / d.next.length=x.1.toNat:=by
      rw [AcB,AbZ Bm,AbS Bm,Abn]
     have f2:(y.1.toNat*d.next.length+y.2.toNat) / d.next.length=y.1.toNat:=by
      rw [AcB,AbZ Bm,AbS Bm,Abn]
     rw [← f1,← f2,e]
    rw [e1] at e
    exact Prod.ext Bm Bm)
  (fun z hz=>by
   obtain ⟨s,hs,rfl⟩:=Aaf.1 hz
   rcases h s hs with rfl | ⟨a1,a2,a3,a4⟩
   ·simp
   ·have h1:(s.1.toNat+1)*d.next.length≤t.moves.length*d.next.length:=AbL _ Bm
    rw [AcN,AcE] at h1
    rw [if_neg Bm];omega)
 rwa [AaC] at h2
theorem o8 (x:UInt8):UInt8.ofNat x.toNat=x:=by simp
def preS (t:Tr) (d:Tb) (s:PQ) (w:List UInt8):Bool :=
 decide (0≤s.1) && match Bo t s.1.toNat w with
  | some o=>lb d s.2.toNat o
  | none=>false
theorem pre_ok {t:Tr} {d:Cy} (ht:TrOk t) (hd:DOk d) (h64:d.next.length≤64):∃ R,nJ t d=some R∧(t.moves.length*d.next.length+1≤64→R≠none) ∧
  LimOf (fun w=>match Bo t 0 w with
   | some o=>lb (Av d) 0 o
   | none=>false) R:=by
 have hmul:t.moves.length*d.next.length≤64*64:=Abg ht.n2 h64
 have hdt:=tab_ok hd
 have h1:=ht.n1;have h2:=hd.n1
 have hok:∀ s,preOk t d s→∀ b∈List.range 256,preOk t d (Ni t (Av d) s b):=fun s hs b _=>by
  unfold Ni
  split
  ·rename_i hc
   rcases hs with rfl | ⟨a1,a2,a3,a4⟩
   ·exact absurd hc.1 Lk
   ·have hm:=ht.mv (p:=s.1.toNat) Bm (UInt8.ofNat b)
    refine .inr ⟨hc.2,hm.2.1,Int.natCast_nonneg _,?_⟩
    have:=aft_lt hdt (Gt (Dv t s.1.toNat (UInt8.ofNat b)).out (UInt8.ofNat b)) (q:=s.2.toNat) (by show s.2.toNat<d.next.length;omega)
    exact Int.ofNat_lt.2 this
  ·exact .inl rfl
 have h0:preOk t d (0,0):=.inr ⟨by decide,by show (0:Int)<_;omega,by decide,by show (0:Int)<_;omega⟩
 obtain ⟨l,rows,e,hE⟩:=exA_run (N:=t.moves.length*d.next.length+1) hok (fun l hn h=>pre_le l hn h) 5000 0 (ei_start h0) Bm
 have hle:=pre_le l hE.nd hE.ok
 have hA:=ei_rows hE Bm (Jz t (Av d))
 obtain ⟨R,hR,hR1,hR2⟩:=min_ok hA fun s hs=>ei_reach hE _ s (by rw [← hE.rl];exact hs)
 unfold nJ
 rw [e]
 dsimp only
 refine ⟨R,hR,fun h=>hR1 (by rw [hE.rl];omega),?_⟩
 obtain ⟨D,hc,hl,hRe⟩:=hR2
 refine ⟨D,hc,fun w=>?_,hRe⟩
 rw [hl w,ei_lang hE (sem:=preS t (Av d)) ?_ ?_ w 0 _ hE.hd]
 ·show (decide ((0:Int)≤0) && _)=_
  simp only [Int.le_refl,decide_true,AcF];rfl
 ·intro s hs
  unfold preS Jz Bo
  by_cases h3:0≤s.1
  ·simp only [h3,decide_true,AcF]
   by_cases h4:t.final.getD s.1.toNat false=true
   ·rw [if_pos h4,h4,AcF];exact lb_end _ _
   ·rw [if_neg h4]
    cases h5:t.final.getD s.1.toNat false with
    | false=>rfl
    | true=>exact absurd h5 h4
  ·simp only [h3,decide_false,Bool.false_and]
 ·intro s hs x w
  unfold preS
  rw [Bo]
  have e:Ni t (Av d) s x.toNat=if 0≤s.1∧0≤(Dv t s.1.toNat x).to then ((Dv t s.1.toNat x).to,(aft (Av d) s.2.toNat (Gt (Dv t s.1.toNat x).out x):Int)) else (-1,-1):=by unfold Ni;rw [o8]
  rw [e]
  by_cases h3:0≤s.1
  ·by_cases h4:(Dv t s.1.toNat x).to<0
   ·have hc:¬ (0≤s.1∧0≤(Dv t s.1.toNat x).to):=fun h=>by omega
    rw [if_pos h4,if_neg hc]
    simp
   ·have h6:(0:Int)≤(Dv t s.1.toNat x).to:=by omega
    rw [if_neg h4,if_pos ⟨h3,h6⟩]
    simp only [h3,h6,decide_true,AcF]
    cases Bo t (Dv t s.1.toNat x).to.toNat w with
    | none=>rfl
    | some o=>simp only [Option.map_some];rw [Qt];rfl
  ·have hc:¬ (0≤s.1∧0≤(Dv t s.1.toNat x).to):=fun h=>h3 h.1
   rw [if_neg hc]
   simp [h3]
end Cn7
end Go.Proofs.YtmohebpaonkaeaaGreatDoor
namespace Go.Proofs.YtmohebpaonkaeaaGreatDoor
open Go Go.Ex
open Cn7
def Wf (x y:Tb) (s:Cs) (c:Nat):Cs:=⟨x.to s.p (x.cell.getD c 0),y.to s.q (y.cell.getD c 0),0⟩
def Qi (h:Bool→Bool→Bool) (x y:Tb) (s:Cs):Bool:=h (x.acc.getD s.p false) (y.acc.getD s.q false)
def combF (h:Bool→Bool→Bool) (a b:Cy):Option (Option Cy) :=
 match qA (Fv (Av a) (Av b)).bytes (Wf (Av a) (Av b)) (Qi h (Av a) (Av b)) 1073741824 1073741825 0 [⟨0,0,0⟩] [] [] with
 | none=>none
 | some none=>some none
 | some (some (nx,ac))=>tT ⟨(Fv (Av a) (Av b)).cell,(Fv (Av a) (Av b)).bytes.length,nx,ac⟩
def notF7 (a:Cy):Option Cy:=Eu { Av a with acc:=a.acc.map (!·) }
def Hs (w:List UInt8):Tb :=
 ⟨List.range 256,256,(List.range (w.length+2)).map fun s=>if s<w.length then (List.replicate 256 (w.length+1)).set (w.getD s 0).toNat (s+1) else List.replicate 256 (w.length+1),(List.range (w.length+2)).map fun s=>decide (s=w.length)⟩
namespace Cn7
theorem lim_ok {t:Tb} (ht:TOk t):∃ R,tT t=some R∧(t.next.length≤64→R≠none)∧LimOf (lb t 0) R:=by
 obtain ⟨D,hD,hc,hn,hl⟩:=canon_ok ht
 unfold tT;rw [hD];dsimp only
 by_cases h:D.next.length≤64
 ·rw [if_pos h]
  exact ⟨some D,rfl,(fun _=>by simp),D,hc,hl,by rw [if_pos h]⟩
 ·rw [if_neg h]
  exact ⟨none,rfl,(fun h2=>by omega),D,hc,hl,by rw [if_neg h]⟩
def prOk (a b:Cy) (s:Cs):Prop:=s.p<a.next.length∧s.q<b.next.length∧s.s=0
theorem pr_le {a b:Cy} (l:List Cs) (hn:l.Nodup) (h:∀ x∈l,prOk a b x):l.length≤a.next.length*b.next.length:=by
 have h2:=len_le (l:=l.map fun s=>s.p*b.next.length+s.q) (n:=a.next.length*b.next.length) (nodup_map hn fun x hx y hy e=>by
   obtain ⟨a1,a2,a3⟩:=h x hx
   obtain ⟨b1,b2,b3⟩:=h y hy
   have f1:(x.p*b.next.length+x.q) / b.next.length=x.p:=by rw [AcB,AbZ Bm,AbS Bm,Abn]
   have f2:(y.p*b.next.length+y.q) / b.next.length=y.p:=by rw [AcB,AbZ Bm,AbS Bm,Abn]
   have e1:x.p=y.p:=by rw [← f1,← f2,e]
   rw [e1] at e
   cases x;cases y
   simp only [Cs.mk.injEq]
   dsimp only at e1 e a3 b3
   exact ⟨e1,by omega,by omega⟩) (fun z hz=>by
   obtain ⟨s,hs,rfl⟩:=Aaf.1 hz
   obtain ⟨a1,a2,a3⟩:=h s hs
   have h1:(s.p+1)*b.next.length≤a.next.length*b.next.length:=AbL _ a1
   rw [AcN,AcE] at h1
   omega)
 rwa [AaC] at h2
theorem comb_run {h:Bool→Bool→Bool} {a b:Cy} (ha:DOk a) (hb:DOk b) (a64:a.next.length≤64) (b64:b.next.length≤64):∃ RN,qA (Fv (Av a) (Av b)).bytes (Wf (Av a) (Av b)) (Qi h (Av a) (Av b)) 1073741824 1073741825 0 [⟨0,0,0⟩] [] []=some (some RN) ∧
  TOk ⟨(Fv (Av a) (Av b)).cell,(Fv (Av a) (Av b)).bytes.length,RN.1,RN.2⟩∧RN.1.length≤a.next.length*b.next.length∧∀ w,lb ⟨(Fv (Av a) (Av b)).cell,(Fv (Av a) (Av b)).bytes.length,RN.1,RN.2⟩ 0 w=h (lb (Av a) 0 w) (lb (Av b) 0 w):=by
 have hmul:a.next.length*b.next.length≤64*64:=Abg a64 b64
 have hat:=tab_ok ha;have hbt:=tab_ok hb
 have J:=aO (Av a) (Av b)
 have hbl:=J.le
 obtain ⟨j,hj⟩:∃ j,j=Fv (Av a) (Av b):=⟨_,rfl⟩
 rw [← hj] at J hbl
 have h256:∀ c∈j.bytes,c<256:=fun c hc=>by
  obtain ⟨i,hi,rfl⟩:=AaQ.1 hc
  exact (J.by_ i _ (AaA hi)).1
 have hok:∀ s,prOk a b s→∀ c∈j.bytes,prOk a b (Wf (Av a) (Av b) s c):=fun s hs c hc=>by
  obtain ⟨h1,h2,h3⟩:=hs
  exact ⟨step_lt hat h1 (h256 c hc),step_lt hbt h2 (h256 c hc),rfl⟩
 obtain ⟨l,rows,e,hE⟩:=xX (ac:=Qi h (Av a) (Av b)) (most:=1073741824) hok (fun l hn hl=>pr_le l hn hl) Bm 1073741825 0 (acc:=[]) (ei_start (ok:=prOk a b) (s0:=⟨0,0,0⟩) ⟨ha.n1,hb.n1,rfl⟩) Di Bm
 have hle:=pr_le l hE.nd hE.ok
 have hl0:0<l.length:=by
  have:=hE.hd
  rcases AbP l.length with h0 | h0
  ·rw [AaL Bm] at this;cases this
  ·exact h0
 obtain ⟨t,hte⟩:∃ t:Tb,t=⟨j.cell,j.bytes.length,rows,l.map (Qi h (Av a) (Av b))⟩:=⟨_,rfl⟩
 have hcell:∀ x,x<256→j.cell.getD x 0<j.bytes.length:=fun x hx=>(J.same hx).1
 have ht:TOk t:=by
  rw [hte]
  refine ⟨by show 1≤rows.length;rw [hE.rl];exact hl0,by show rows.length≤60000;rw [hE.rl];omega,by show (l.map _).length=rows.length;rw [AaC,hE.rl],J.cl,hbl,fun r hr=>?_,fun c hc=>?_,fun c hc=>?_⟩
  ·obtain ⟨i,hi,rfl⟩:=AaQ.1 hr
   have hi':i<rows.length:=hi
   have hil:i<l.length:=by rw [← hE.rl];exact hi'
   obtain ⟨h1,h2⟩:=hE.rw i hil _ (AaA hil)
   rw [gD hi'] at h1
   show (rows[i]).length=j.bytes.length∧∀ x∈rows[i],x<rows.length
   rw [h1]
   refine ⟨AaC _,fun x hx=>?_⟩
   obtain ⟨c,hc,rfl⟩:=Aaf.1 hx
   rw [hE.rl];exact Cb.2 (h2 c hc)
  ·obtain ⟨x,hx,rfl⟩:=AaQ.1 hc
   have hx':x<j.cell.length:=hx
   have:=hcell x (by rw [← J.cl];exact hx')
   rwa [gD hx'] at this
  ·have hc':c<j.bytes.length:=hc
   obtain ⟨h1,h2⟩:=J.by_ c _ (AaA hc')
   exact ⟨_,h1,by show j.cell.getD _ 0=c;rw [J.cv _ h1];exact h2⟩
 have hlang:∀ (w:List UInt8) i s,l[i]?=some s→lb t i w=h (lb (Av a) s.p w) (lb (Av b) s.q w):=by
  intro w
  induction w with
  | nil =>
   intro i s hi
   show t.acc.getD i false=_
   rw [hte]
   show (l.map (Qi h (Av a) (Av b))).getD i false=_
   rw [AaH,Aak,hi];rfl
  | cons x w ih =>
   intro i s hi
   have hil:i<l.length:=by
    rcases AaM i l.length with h4 | h4
    ·exact h4
    ·rw [AaL h4] at hi;cases hi
   obtain ⟨h2,h3⟩:=hE.rw i hil s hi
   obtain ⟨hq,e1,e2⟩:=J.same x.toNat_lt
   have hst:step t i x.toNat=Bc (Wf (Av a) (Av b) s j.bytes[j.cell.getD x.toNat 0]) l:=by
    rw [hte];unfold step
    show (rows.getD i []).getD (j.cell.getD x.toNat 0) 0=_
    rw [h2,gD (by rw [AaC];exact hq),Aaa]
   have h4:=h3 _ (AaD hq)
   have h5:=Cb.2 h4
   rw [lb,lb,lb,hst,ih _ _ (by rw [AaA h5,Ec h5])]
   show h (lb (Av a) ((Av a).to s.p ((Av a).cell.getD (j.bytes[j.cell.getD x.toNat 0]) 0)) w) (lb (Av b) ((Av b).to s.q ((Av b).cell.getD (j.bytes[j.cell.getD x.toNat 0]) 0)) w)=_
   rw [e1,e2];rfl
 rw [← hj,e]
 refine ⟨(rows,l.map (Qi h (Av a) (Av b))),rfl,?_,by show rows.length≤_;rw [hE.rl];exact hle,fun w=>?_⟩
 ·rw [hte] at ht;exact ht
 ·have:=hlang w 0 _ hE.hd
  rw [hte] at this;exact this
theorem Ta {h:Bool→Bool→Bool} {a b:Cy} (ha:DOk a) (hb:DOk b) (a64:a.next.length≤64) (b64:b.next.length≤64):∃ R,combF h a b=some R∧(a.next.length*b.next.length≤64→R≠none) ∧
  LimOf (fun w=>h (lb (Av a) 0 w) (lb (Av b) 0 w)) R:=by
 obtain ⟨RN,e,ht,hle,hlang⟩:=comb_run (h:=h) ha hb a64 b64
 unfold combF
 rw [e]
 dsimp only
 obtain ⟨R,hR,h1,h2⟩:=lim_ok ht
 refine ⟨R,hR,fun h=>h1 (by show RN.1.length≤64;omega),?_⟩
 obtain ⟨D,h3,h4,h5⟩:=h2
 exact ⟨D,h3,fun w=>by rw [h4 w,hlang w],h5⟩
theorem not_ok7 {a:Cy} (ha:DOk a):∃ D,notF7 a=some D∧Can D∧D.next.length≤a.next.length∧∀ w,lb (Av D) 0 w=!(lb (Av a) 0 w):=by
 have hat:=tab_ok ha
 obtain ⟨t,hte⟩:∃ t:Tb,t={ Av a with acc:=a.acc.map (!·) }:=⟨_,rfl⟩
 have ht:TOk t:=by
  rw [hte];exact ⟨hat.n1,hat.n2,by show (a.acc.map _).length=_;rw [AaC];exact hat.al,hat.cl,hat.cc,hat.row,hat.cell,hat.full⟩
 obtain ⟨D,hD,hc,hn,hl⟩:=canon_ok ht
 have hlang:∀ (w:List UInt8) s,s<a.next.length→lb t s w=!(lb (Av a) s w):=by
  intro w
  induction w with
  | nil =>
   intro s hs
   show t.acc.getD s false=!((Av a).acc.getD s false)
   have hsa:s<a.acc.length:=by rw [ha.al];exact hs
   rw [hte]
   show (a.acc.map (!·)).getD s false=!(a.acc.getD s false)
   rw [gD (by rw [AaC];exact hsa),Aaa,gD hsa]
  | cons x w ih =>
   intro s hs
   have e:step t s x.toNat=step (Av a) s x.toNat:=by rw [hte];rfl
   rw [lb,lb,e]
   exact ih _ (step_lt hat hs x.toNat_lt)
 unfold notF7
 rw [← hte,hD]
 exact ⟨D,rfl,hc,by rw [hte] at hn;exact hn,fun w=>by rw [hl w,hlang w 0 ha.n1]⟩
end Cn7
end Go.Proofs.YtmohebpaonkaeaaGreatDoor
namespace Go.Proofs.YtmohebpaonkaeaaGreatDoor
open Go Go.Ex
namespace Cn7
theorem yB {w:List UInt8} {s:Nat} (hs:s<w.length+2):(Hs w).next.getD s []=if s<w.length then (List.replicate 256 (w.length+1)).set (w.getD s 0).toNat (s+1) else List.replicate 256 (w.length+1):=by
 unfold Hs;dsimp only
 rw [gD (by rw [AaC,AaO];exact hs),Aaa,Abs]
theorem w_acc {w:List UInt8} {s:Nat} (hs:s<w.length+2):(Hs w).acc.getD s false=decide (s=w.length):=by
 unfold Hs;dsimp only
 rw [gD (by rw [AaC,AaO];exact hs),Aaa,Abs]
theorem w_len (w:List UInt8):(Hs w).next.length=w.length+2:=by unfold Hs;rw [AaC,AaO]
theorem fO (w:List UInt8):(Hs w).cell=List.range 256:=by simp only [Hs]
theorem w_ok {w:List UInt8} (hw:w.length≤62):TOk (Hs w):=by
 have e:(Hs w).cells=256:=rfl
 refine ⟨by rw [w_len];omega,by rw [w_len];omega,?_,?_,?_,fun r hr=>?_,fun c hc=>?_,fun c hc=>?_⟩
 ·rw [w_len];unfold Hs;rw [AaC,AaO]
 ·rw [fO,AaO]
 ·rw [e];exact AaR _
 ·obtain ⟨s,hs,rfl⟩:=AaQ.1 hr
  have hs2:s<w.length+2:=by rw [← w_len];exact hs
  have h1:=yB hs2
  rw [gD hs] at h1
  rw [h1,e,w_len]
  split
  ·refine ⟨by rw [AaP,AaJ],fun x hx=>?_⟩
   rcases AbB hx with h | h
   ·rw [Aba h];omega
   ·omega
  ·refine ⟨by rw [AaJ],fun x hx=>?_⟩
   rw [Aba hx];omega
 ·rw [fO] at hc;rw [e];exact Aae.1 hc
 ·rw [e] at hc;exact ⟨c,hc,by rw [fO];exact Nh hc⟩
theorem jJ {n x v:Nat} (h:x<n):(List.replicate n v).getD x 0=v:=by rw [gD (by rw [AaJ];exact h),AcM]
theorem yC {w:List UInt8} {s:Nat} (hs:s<w.length+2) (x:UInt8):step (Hs w) s x.toNat=if s<w.length∧w.getD s 0=x then s+1 else w.length+1:=by
 have hx:=x.toNat_lt
 unfold step Tb.to
 rw [fO,Nh hx,yB hs]
 by_cases h:s<w.length
 ·rw [if_pos h,Ey (by rw [AaJ];exact (w.getD s 0).toNat_lt)]
  by_cases e:w.getD s 0=x
  ·rw [if_pos (by rw [e]),if_pos ⟨h,e⟩]
  ·rw [if_neg (fun h2=>e (AcI.1 h2.symm)),if_neg (fun h2=>e h2.2)]
   exact jJ hx
 ·rw [if_neg h,if_neg (fun h2=>h h2.1)]
  exact jJ hx
theorem nK {w:List UInt8}:∀ u:List UInt8,lb (Hs w) (w.length+1) u=false
 | []=>by rw [lb,w_acc Bm,decide_eq_false_iff_not];omega
 | x::u=>by
  rw [lb,yC Bm,if_neg (fun h=>by omega)]
  exact nK u
theorem yD {w:List UInt8}:∀ (u:List UInt8) (s:Nat),s≤w.length→lb (Hs w) s u=decide (u=w.drop s)
 | [],s,hs=>by
  rw [lb,w_acc Bm,AbG,decide_eq_true_eq,decide_eq_true_eq,Eq.comm (a:=[]),List.drop_eq_nil_iff]
  omega
 | x::u,s,hs=>by
  rw [lb,yC Bm]
  by_cases h:s<w.length
  ·rw [Aaq h]
   by_cases e:w.getD s 0=x
   ·rw [if_pos ⟨h,e⟩,yD u (s+1) Bm,AbG,decide_eq_true_eq,decide_eq_true_eq]
    rw [gD h] at e
    rw [e];simp
   ·rw [if_neg (fun h2=>e h2.2),nK,Eq.comm,decide_eq_false_iff_not]
    intro h2
    injection h2 with h3 h4
    rw [gD h] at e
    exact e h3.symm
  ·rw [if_neg (fun h2=>h h2.1),nK,Eq.comm,decide_eq_false_iff_not,AbU Bm]
   exact fun h=>by cases h
theorem word_ok7 {w:List UInt8} (hw:w.length≤62):∃ D,Eu (Hs w)=some D∧Can D∧D.next.length≤w.length+2∧∀ u,lb (Av D) 0 u=decide (u=w):=by
 obtain ⟨D,hD,hc,hn,hl⟩:=canon_ok (w_ok hw)
 rw [w_len] at hn
 exact ⟨D,hD,hc,hn,fun u=>by rw [hl u,yD u 0 Bm,List.drop_zero]⟩
end Cn7
def Ow (a b:List Nat):List Nat:=List.zipWith (fun x y=>Dn x (Kr 18446744073709551615 y)) a b
def Io (c:List Nat):Nat:=match (Br c)[0]? with
 | none=>0
 | some a=>a.toNat
def Fi (cell c:List Nat):List (List Nat):=[Ef cell c,Ow cell c].filter fun p=>!(decide (p=[0,0,0,0]))
def Uq (cells:List (List Nat)) (c:List Nat):List (List Nat):=cells.flatMap fun cell=>Fi cell c
def cutsF (l:List (List Nat)):List (List Nat):=l.foldl Uq [Jw [0,0,0,0]]
def uC (c:List Nat):List (List Nat)→List (List Nat)
 | []=>[c]
 | d::l=>if Io c≤Io d then c::d::l else d::uC c l
def jK (l:List (List Nat)):List (List Nat):=l.foldr uC []
def Gg (l:List (List Nat)):List (List Nat):=jK (cutsF l)
namespace Cn7
theorem Mm {a b:List Nat} (ha:Cj a) (hb:Cj b) (z:UInt8):Bv (Ef a b) z=(Bv a z && Bv b z):=by
 obtain ⟨a0,a1,a2,a3,rfl⟩:=Ei ha.1
 obtain ⟨b0,b1,b2,b3,rfl⟩:=Ei hb.1
 rw [Dp,Dp,Dp]
 have hz:=z.toNat_lt
 have key:∀ a b:Nat,(Dn a b % W64).testBit (z.toNat % 64)=((a % W64).testBit (z.toNat % 64) && (b % W64).testBit (z.toNat % 64)):=fun a b=>by
  rw [AaT (Gv a b)];unfold Dn;rw [AcJ]
 rcases (by omega:z.toNat / 64=0∨z.toNat / 64=1∨z.toNat / 64=2∨z.toNat / 64=3) with h | h | h | h<;>rw [h]
 ·exact key a0 b0
 ·exact key a1 b1
 ·exact key a2 b2
 ·exact key a3 b3
theorem yE (j:Nat) (hj:j<64):(18446744073709551615 % W64).testBit j=true:=by
 have:(18446744073709551615 % W64)=2 ^ 64-1:=by decide
 rw [this,Nat.testBit_two_pow_sub_one];simpa using hj
theorem Xg {a b:List Nat} (ha:Cj a) (hb:Cj b) (z:UInt8):Bv (Ow a b) z=(Bv a z && !Bv b z):=by
 obtain ⟨a0,a1,a2,a3,rfl⟩:=Ei ha.1
 obtain ⟨b0,b1,b2,b3,rfl⟩:=Ei hb.1
 rw [Dp,Dp,Dp]
 have hz:=z.toNat_lt
 have key:∀ a b:Nat,(Dn a (Kr 18446744073709551615 b) % W64).testBit (z.toNat % 64)=((a % W64).testBit (z.toNat % 64) && !(b % W64).testBit (z.toNat % 64)):=fun a b=>by
  rw [AaT (Gv a _)];unfold Dn;rw [AcJ,AaT (Sf _ b)];unfold Kr
  rw [Nat.testBit_xor,yE _ (Abz _ Lk),Bool.true_xor]
 rcases (by omega:z.toNat / 64=0∨z.toNat / 64=1∨z.toNat / 64=2∨z.toNat / 64=3) with h | h | h | h<;>rw [h]
 ·exact key a0 b0
 ·exact key a1 b1
 ·exact key a2 b2
 ·exact key a3 b3
theorem Jl {a b:List Nat} (ha:Cj a) (hb:Cj b):Cj (Ef a b):=by
 obtain ⟨a0,a1,a2,a3,rfl⟩:=Ei ha.1
 obtain ⟨b0,b1,b2,b3,rfl⟩:=Ei hb.1
 refine ⟨rfl,fun w hw=>?_⟩
 simp only [Ef,List.zipWith_cons_cons,List.zipWith_nil_left,AaV,AbI,or_false] at hw
 rcases hw with rfl | rfl | rfl | rfl<;>exact Gv _ _
theorem fP {a b:List Nat} (ha:Cj a) (hb:Cj b):Cj (Ow a b):=by
 obtain ⟨a0,a1,a2,a3,rfl⟩:=Ei ha.1
 obtain ⟨b0,b1,b2,b3,rfl⟩:=Ei hb.1
 refine ⟨rfl,fun w hw=>?_⟩
 simp only [Ow,List.zipWith_cons_cons,List.zipWith_nil_left,AaV,AbI,or_false] at hw
 rcases hw with rfl | rfl | rfl | rfl<;>exact Gv _ _
theorem Ur {c:List Nat} (hc:Cj c):c≠[0,0,0,0]↔∃ y,Bv c y=true:=by
 constructor
 ·intro h
  refine Classical.byContradiction fun hn=>h (Xf hc Ov fun y=>?_)
  rw [show Bv [0,0,0,0] y=false from Lq y]
  cases hy:Bv c y with
  | false=>rfl
  | true=>exact absurd ⟨y,hy⟩ hn
 ·rintro ⟨y,hy⟩ rfl
  have:=Lq y
  rw [show noC=[0,0,0,0] from rfl,hy] at this;cases this
theorem full_ok:Cj (Jw [0,0,0,0]):=⟨by decide,by decide⟩
theorem has_full (y:UInt8):Bv (Jw [0,0,0,0]) y=true:=by revert y;exact wX (by decide +kernel)
structure Pt (l:List (List Nat)):Prop where
 c4:∀ c∈l,Cj c
 ne:∀ c∈l,∃ y,Bv c y=true
 dj:l.Pairwise fun a b=>∀ y,¬ (Bv a y=true∧Bv b y=true)
 cv:∀ y,∃ c∈l,Bv c y=true
theorem Pt.one {l:List (List Nat)} (h:Pt l) {a b:List Nat} (ha:a∈l) (hb:b∈l) {y:UInt8} (h1:Bv a y=true) (h2:Bv b y=true):a=b:=by
 obtain ⟨i,hi,rfl⟩:=AaQ.1 ha
 obtain ⟨j,hj,rfl⟩:=AaQ.1 hb
 have hp:=AcR.1 h.dj
 rcases Nat.lt_trichotomy i j with h3 | h3 | h3
 ·exact absurd ⟨h1,h2⟩ (hp i j hi hj h3 y)
 ·subst h3;rfl
 ·exact absurd ⟨h2,h1⟩ (hp j i hj hi h3 y)
theorem pt_start:Pt [Jw [0,0,0,0]] :=
 ⟨fun c hc=>by rw [AaE.1 hc];exact full_ok,fun c hc=>by rw [AaE.1 hc];exact ⟨0,has_full 0⟩,List.pairwise_singleton _ _,fun y=>⟨_,AaE.2 rfl,has_full y⟩⟩
theorem Kh {cell c p:List Nat} (h1:Cj cell) (h2:Cj c):p∈Fi cell c↔(p=Ef cell c∨p=Ow cell c)∧∃ y,Bv p y=true:=by
 unfold Fi
 rw [AcG]
 simp only [AaV,AbI,or_false,Bool.not_eq_true',decide_eq_false_iff_not]
 constructor
 ·rintro ⟨rfl | rfl,h⟩
  ·exact ⟨.inl rfl,(Ur (Jl h1 h2)).1 h⟩
  ·exact ⟨.inr rfl,(Ur (fP h1 h2)).1 h⟩
 ·rintro ⟨rfl | rfl,h⟩
  ·exact ⟨.inl rfl,(Ur (Jl h1 h2)).2 h⟩
  ·exact ⟨.inr rfl,(Ur (fP h1 h2)).2 h⟩
theorem Ps {cell c p:List Nat} (h1:Cj cell) (h2:Cj c) (hp:p∈Fi cell c) {y:UInt8} (hy:Bv p y=true):Bv cell y=true:=by
 rcases ((Kh h1 h2).1 hp).1 with rfl | rfl
 ·rw [Mm h1 h2,Aah] at hy;exact hy.1
 ·rw [Xg h1 h2,Aah] at hy;exact hy.1
theorem pt_cut {l:List (List Nat)} (h:Pt l) {c:List Nat} (hc:Cj c):Pt (Uq l c):=by
 refine ⟨fun p hp=>?_,fun p hp=>?_,?_,fun y=>?_⟩
 ·obtain ⟨cell,hm,hp⟩:=Abh.1 hp
  have h1:=h.c4 cell hm
  rcases ((Kh h1 hc).1 hp).1 with rfl | rfl
  ·exact Jl h1 hc
  ·exact fP h1 hc
 ·obtain ⟨cell,hm,hp⟩:=Abh.1 hp
  exact ((Kh (h.c4 cell hm) hc).1 hp).2
 ·unfold Uq
  have h4:=h.c4
  have hd:=h.dj
  clear h
  induction l with
  | nil=>exact List.Pairwise.nil
  | cons a l ih =>
   rw [Aan,Abq]
   have hd':=AbO.1 hd
   refine ⟨?_,ih (fun x hx=>h4 x (AaG _ hx)) hd'.2,fun p hp q hq y ⟨h1,h2⟩=>?_⟩
   ·unfold Fi
    refine List.Pairwise.filter _ ?_
    refine AbO.2 ⟨fun q hq y ⟨h1,h2⟩=>?_,List.pairwise_singleton _ _⟩
    rw [AaE.1 hq] at h2
    rw [Mm (h4 a AaK) hc,Aah] at h1
    rw [Xg (h4 a AaK) hc,h1.2] at h2
    simp at h2
   ·obtain ⟨b,hb,hq⟩:=Abh.1 hq
    exact hd'.1 b hb y ⟨Ps (h4 a AaK) hc hp h1,Ps (h4 b (AaG _ hb)) hc hq h2⟩
 ·obtain ⟨cell,hm,hy⟩:=h.cv y
  have h1:=h.c4 cell hm
  cases hcy:Bv c y with
  | true =>
   have h2:Bv (Ef cell c) y=true:=by rw [Mm h1 hc,hy,hcy];rfl
   exact ⟨Ef cell c,Abh.2 ⟨cell,hm,(Kh h1 hc).2 ⟨.inl rfl,y,h2⟩⟩,h2⟩
  | false =>
   have h2:Bv (Ow cell c) y=true:=by rw [Xg h1 hc,hy,hcy];rfl
   exact ⟨Ow cell c,Abh.2 ⟨cell,hm,(Kh h1 hc).2 ⟨.inr rfl,y,h2⟩⟩,h2⟩
def cQ (cells l:List (List Nat)):Prop:=∀ cell∈cells,∀ c∈l,∀ x y,Bv cell x=true→Bv cell y=true→Bv c x=Bv c y
theorem cuts_ok:∀ (l done cells:List (List Nat)),Pt cells→cQ cells done→(∀ c∈l,Cj c)→Pt (l.foldl Uq cells)∧cQ (l.foldl Uq cells) (done++l)
 | [],done,cells,h1,h2,_=>⟨h1,by rw [AaX];exact h2⟩
 | c::l,done,cells,h1,h2,h3=>by
  have hc:=h3 c AaK
  have:=cuts_ok l (done++[c]) (Uq cells c) (pt_cut h1 hc) (fun p hp d hd x y hx hy=>by
   obtain ⟨cell,hm,hp⟩:=Abh.1 hp
   have h4:=h1.c4 cell hm
   have hx2:=Ps h4 hc hp hx
   have hy2:=Ps h4 hc hp hy
   rcases AaS.1 hd with hd | hd
   ·exact h2 cell hm d hd x y hx2 hy2
   ·rw [AaE.1 hd]
    rcases ((Kh h4 hc).1 hp).1 with rfl | rfl
    ·rw [Mm h4 hc,Aah] at hx hy
     rw [hx.2,hy.2]
    ·rw [Xg h4 hc,Aah,Bool.not_eq_true'] at hx hy
     rw [hx.2,hy.2]) fun d hd=>h3 d (AaG _ hd)
  rw [AaI] at this
  exact this
theorem aP (c:List Nat):∀ l:List (List Nat),(uC c l).Perm (c::l)
 | []=>List.Perm.refl _
 | d::l=>by
  rw [uC];split
  ·exact List.Perm.refl _
  ·exact ((aP c l).cons d).trans (List.Perm.swap c d l)
theorem sort_perm:∀ l:List (List Nat),(jK l).Perm l
 | []=>List.Perm.refl _
 | c::l=>(aP c _).trans ((sort_perm l).cons c)
def LeL (l:List (List Nat)):Prop:=l.Pairwise fun a b=>Io a≤Io b
theorem aQ (c:List Nat):∀ {l:List (List Nat)},LeL l→LeL (uC c l)
 | [],_=>List.pairwise_singleton _ _
 | d::l,h=>by
  have h':=AbO.1 h
  rw [uC];split
  ·rename_i hle
   refine AbO.2 ⟨fun x hx=>?_,h⟩
   rcases AaV.1 hx with rfl | hx
   ·exact hle
   ·exact Aai hle (h'.1 x hx)
  ·refine AbO.2 ⟨fun x hx=>?_,aQ c h'.2⟩
   rcases AaV.1 ((aP c l).mem_iff.1 hx) with rfl | hx
   ·omega
   ·exact h'.1 x hx
theorem sort_sorted:∀ l:List (List Nat),LeL (jK l)
 | []=>List.Pairwise.nil
 | c::l=>aQ c (sort_sorted l)
theorem fQ {c:List Nat} (hc:Cj c) (h:∃ y,Bv c y=true):Bv c (UInt8.ofNat (Io c))=true∧Io c<256:=by
 obtain ⟨y,hy⟩:=h
 have hm:=(mem_bytes hc).2 hy
 cases hb:Br c with
 | nil=>rw [hb] at hm;cases hm
 | cons a l =>
  have e:Io c=a.toNat:=by unfold Io;rw [hb];rfl
  have ha:Bv c a=true:=(mem_bytes hc).1 (by rw [hb];exact AaK)
  rw [e]
  exact ⟨by rw [o8];exact ha,a.toNat_lt⟩
theorem Pt.le_inj {l:List (List Nat)} (h:Pt l) {a b:List Nat} (ha:a∈l) (hb:b∈l) (e:Io a=Io b):a=b:=by
 have h1:=fQ (h.c4 a ha) (h.ne a ha)
 have h2:=fQ (h.c4 b hb) (h.ne b hb)
 rw [e] at h1
 exact h.one ha hb h1.1 h2.1
theorem Pt.nodup {l:List (List Nat)} (h:Pt l):l.Nodup:=by
 rw [List.Nodup]
 refine h.dj.imp_of_mem fun {a b} ha _ hd e=>?_
 subst e
 obtain ⟨y,hy⟩:=h.ne a ha
 exact hd y ⟨hy,hy⟩
theorem Pt.len {l:List (List Nat)} (h:Pt l):l.length≤256:=by
 have:=len_le (l:=l.map Io) (n:=256) (nodup_map h.nodup fun x hx y hy e=>h.le_inj hx hy e) fun z hz=>by
  obtain ⟨c,hc,rfl⟩:=Aaf.1 hz
  exact (fQ (h.c4 c hc) (h.ne c hc)).2
 rwa [AaC] at this
theorem Pt.perm {l m:List (List Nat)} (h:Pt l) (hp:m.Perm l):Pt m :=
 ⟨fun c hc=>h.c4 c (hp.mem_iff.1 hc),fun c hc=>h.ne c (hp.mem_iff.1 hc),(hp.symm.pairwise_iff (fun {a b} hab y ⟨h1,h2⟩=>hab y ⟨h2,h1⟩)).1 h.dj,fun y=>by
  obtain ⟨c,hc,hy⟩:=h.cv y;exact ⟨c,hp.mem_iff.2 hc,hy⟩⟩
theorem Pt.part {l:List (List Nat)} (h:Pt l):PartOk l:=by
 refine ⟨by simp,by simp,by simp,h.len,h.c4,fun i hi=>?_,fun i j y hi hj h1 h2=>?_,fun y=>?_,fun r hr=>?_⟩
 ·have hi':i<l.length:=hi
  show ∃ y,Bv (l.getD i []) y=true
  rw [gD hi'];exact h.ne _ (AaD hi')
 ·have hi':i<l.length:=hi
  have hj':j<l.length:=hj
  have h1':Bv (l.getD i []) y=true:=h1
  have h2':Bv (l.getD j []) y=true:=h2
  rw [gD hi'] at h1';rw [gD hj'] at h2'
  have e:=h.one (AaD hi') (AaD hj') h1' h2'
  exact (List.getElem_inj h.nodup).1 e
 ·obtain ⟨c,hc,hy⟩:=h.cv y
  obtain ⟨i,hi,rfl⟩:=AaQ.1 hc
  exact ⟨i,hi,by show Bv (l.getD i []) y=true;rw [gD hi];exact hy⟩
 ·have:r=List.replicate l.length 0:=AaE.1 hr
  rw [this]
  exact ⟨AaJ,fun x hx=>by rw [Aba hx];show 0<1;omega⟩
theorem PartOk.pt {l:List (List Nat)} (h:PartOk l):Pt l:=by
 refine ⟨h.c4,fun c hc=>?_,?_,fun y=>?_⟩
 ·obtain ⟨i,hi,rfl⟩:=AaQ.1 hc
  have:=h.ne i hi
  have e:((⟨l,[List.replicate l.length 0],[false]⟩:Cy).cls.getD i [])=l[i]:=gD hi
  rwa [e] at this
 ·rw [AcR]
  intro i j hi hj hij y ⟨h1,h2⟩
  have:=h.un i j y hi hj (by show Bv (l.getD i []) y=true;rw [gD hi];exact h1) (by show Bv (l.getD j []) y=true;rw [gD hj];exact h2)
  omega
 ·obtain ⟨i,hi,hy⟩:=h.cv y
  have hi':i<l.length:=hi
  have hy':Bv (l.getD i []) y=true:=hy
  rw [gD hi'] at hy'
  exact ⟨_,AaD hi',hy'⟩
theorem cells_ok7 {l:List (List Nat)} (h:∀ c∈l,Cj c):Pt (Gg l)∧cQ (Gg l) l∧LeL (Gg l):=by
 obtain ⟨h1,h2⟩:=cuts_ok l [] _ pt_start (fun _ _ c hc=>by cases hc) h
 have hp:=sort_perm (cutsF l)
 refine ⟨h1.perm hp,fun cell hc c hcl=>?_,sort_sorted _⟩
 exact h2 cell (hp.mem_iff.1 hc) c (by simpa using hcl)
theorem sort_unique {l m:List (List Nat)} (h:Pt m) (hp:l.Perm m) (hs:LeL l) (ht:LeL m):l=m:=by
 have hl:=h.perm hp
 refine hp.eq_of_pairwise (le:=fun a b=>Io a≤Io b) (fun a b ha hb h1 h2=>hl.le_inj ha (hp.mem_iff.2 hb) Bm) hs ht
end Cn7
end Go.Proofs.YtmohebpaonkaeaaGreatDoor
namespace Go.Proofs.YtmohebpaonkaeaaGreatDoor
open Go Go.Ex
open Cn7
def jL (u:Tr):Nat→List UInt8→Option (Nat×List UInt8)
 | q,[]=>some (q,[])
 | q,x::w=>if (Dv u q x).to<0 then none else (jL u (Dv u q x).to.toNat w).map fun r=>(r.1,Gt (Dv u q x).out x++r.2)
structure dR where
 at_:Nat
 out:List Pc
 stuck:Bool
def uD (like:UInt8) (p:Pc):UInt8:=if p.copy=true then like else p.b
def mG (p:Pc) (l:List Pc):List Pc:=l.map fun x=>if x.copy=true∧p.copy=false then ⟨false,p.b⟩ else x
def Of (u:Tr) (like:UInt8) (r:dR) (p:Pc):dR :=
 if r.stuck=true then r else if (Dv u r.at_ (uD like p)).to<0 then { r with stuck:=true }
 else ⟨(Dv u r.at_ (uD like p)).to.toNat,r.out++mG p (Dv u r.at_ (uD like p)).out,false⟩
abbrev QQ:=Nat×Nat
def Li (t u:Tr) (s:QQ) (like:UInt8):dR:=(Dv t s.1 like).out.foldl (Of u like) ⟨s.2,[],decide ((Dv t s.1 like).to<0)⟩
def Tc (t u:Tr) (s:QQ) (st:List QQ×List Mv) (c:List Nat):List QQ×List Mv :=
 let like:=UInt8.ofNat (Io c)
 let r:=Li t u s like
 if r.stuck=true then (st.1,st.2++[⟨-1,[]⟩])
 else
  let to:QQ:=((Dv t s.1 like).to.toNat,r.at_)
  if Bc to st.1<st.1.length then (st.1,st.2++[⟨(Bc to st.1:Nat),r.out⟩]) else (st.1++[to],st.2++[⟨(st.1.length:Nat),r.out⟩])
def lits (w:List UInt8):List Pc:=w.map fun b=>⟨false,b⟩
def cT (t u:Tr) (s:QQ):dR:=(lits (t.ends.getD s.1 [])).foldl (Of u 0) ⟨s.2,[],false⟩
def Iu (t u:Tr) (s:QQ):Option (List UInt8) :=
 if t.final.getD s.1 false=true∧(cT t u s).stuck=false∧u.final.getD (cT t u s).at_ false=true then some (Gt (cT t u s).out 0++u.ends.getD (cT t u s).at_ []) else none
def Us (t u:Tr) (cls:List (List Nat)):Nat→Nat→List QQ→List (List Mv)→Option (List QQ×List (List Mv))
 | 0,_,_,_=>none
 | f+1,i,l,rows =>
  match l[i]? with
  | none=>some (l,rows)
  | some s=>Us t u cls f (i+1) (cls.foldl (Tc t u s) (l,[])).1 (rows++[(cls.foldl (Tc t u s) (l,[])).2])
def partB:List (List Nat)→List Nat→Bool
 | [],seen=>decide (Gr seen=256)
 | c::l,seen=>decide (¬ Gr c=0) && (decide (¬ 0<Gr (Ef seen c)) && partB l (Df seen c))
def Gh (t:Tr):Bool :=
 decide (1≤t.moves.length) && (decide (t.moves.length≤64) && (decide (t.final.length=t.moves.length) && (decide (t.ends.length=t.moves.length) && (decide (t.cls.length≤256) && (partB t.cls [0,0,0,0] &&
  (List.range t.moves.length).all fun s=>decide ((t.moves.getD s []).length=t.cls.length) && (decide ((t.ends.getD s []).length≤8) && ((t.final.getD s false || decide ((t.ends.getD s []).length≤0)) && (t.moves.getD s []).all (nI t.moves.length))))))))
def uE (t u:Tr):Option Tr :=
 match Us t u (Gg (t.cls++u.cls)) 5000 0 [(0,0)] [] with
 | none=>none
 | some (l,rows)=>some ⟨Gg (t.cls++u.cls),rows,l.map fun s=>(Iu t u s).isSome,l.map fun s=>(Iu t u s).getD []⟩
namespace Cn7
theorem Td {u:Tr}:∀ (a b:List UInt8) (q:Nat),Bo u q (a++b)=match jL u q a with
  | none=>none
  | some r=>(Bo u r.1 b).map (r.2++·)
 | [],b,q=>by
  rw [AbA];unfold jL;simp
 | x::a,b,q=>by
  rw [Abc,Bo,jL]
  by_cases h:(Dv u q x).to<0
  ·rw [if_pos h,if_pos h]
  ·rw [if_neg h,if_neg h,Td a b]
   cases jL u (Dv u q x).to.toNat a with
   | none=>rfl
   | some r =>
    simp only [Option.map_some]
    cases Bo u r.1 b with
    | none=>rfl
    | some o=>simp [AaI]
theorem fR {u:Tr} {q:Nat} {x y:UInt8} (h:(Cv u.cls).getD x.toNat 0=(Cv u.cls).getD y.toNat 0):Dv u q x=Dv u q y:=by unfold Dv;rw [h]
theorem wr_rdO {p:Pc} {x:UInt8} (l:List Pc):Gt (mG p l) x=Gt l (if p.copy=true then x else p.b):=by
 unfold Gt mG
 rw [AbV]
 refine AbX fun y _=>?_
 show (if (if y.copy=true∧p.copy=false then (⟨false,p.b⟩:Pc) else y).copy=true then x else (if y.copy=true∧p.copy=false then (⟨false,p.b⟩:Pc) else y).b)=if y.copy=true then (if p.copy=true then x else p.b) else y.b
 obtain ⟨yc,yb⟩:=y
 cases yc<;>cases hpc:p.copy<;>simp
theorem wr_app (a b:List Pc) (x:UInt8):Gt (a++b) x=Gt a x++Gt b x:=AaU
theorem rd_stuck {u:Tr} {like:UInt8}:∀ (l:List Pc) {r:dR},r.stuck=true→(l.foldl (Of u like) r).stuck=true
 | [],_,h=>h
 | p::l,r,h=>by
  rw [Aao]
  refine rd_stuck l ?_
  unfold Of;rw [if_pos h];exact h
theorem nL {u:Tr} {like x:UInt8} (h:(Cv u.cls).getD x.toNat 0=(Cv u.cls).getD like.toNat 0):∀ (l:List Pc) (q:Nat) (out:List Pc),
  (jL u q (Gt l x)=none∧(l.foldl (Of u like) ⟨q,out,false⟩).stuck=true) ∨
  ∃ o,jL u q (Gt l x)=some ((l.foldl (Of u like) ⟨q,out,false⟩).at_,o)∧(l.foldl (Of u like) ⟨q,out,false⟩).stuck=false∧Gt (l.foldl (Of u like) ⟨q,out,false⟩).out x=Gt out x++o
 | [],q,out=>.inr ⟨[],rfl,rfl,by simp⟩
 | p::l,q,out=>by
  have hb:Dv u q (uD like p)=Dv u q (if p.copy=true then x else p.b):=by
   unfold uD
   cases p.copy with
   | true=>simp only [if_true];exact (fR h).symm
   | false=>rfl
  have hw:Gt (p::l) x=(if p.copy=true then x else p.b)::Gt l x:=rfl
  rw [hw,jL,Aao]
  have hr:Of u like ⟨q,out,false⟩ p=if (Dv u q (if p.copy=true then x else p.b)).to<0 then ⟨q,out,true⟩ else ⟨(Dv u q (if p.copy=true then x else p.b)).to.toNat,out++mG p (Dv u q (if p.copy=true then x else p.b)).out,false⟩:=by
   unfold Of
   rw [if_neg Di]
   simp only [hb]
  rw [hr]
  by_cases hn:(Dv u q (if p.copy=true then x else p.b)).to<0
  ·rw [if_pos hn,if_pos hn]
   exact .inl ⟨rfl,rd_stuck l rfl⟩
  ·rw [if_neg hn,if_neg hn]
   rcases nL h l (Dv u q (if p.copy=true then x else p.b)).to.toNat (out++mG p (Dv u q (if p.copy=true then x else p.b)).out) with ⟨h1,h2⟩ | ⟨o,h1,h2,h3⟩
   ·exact .inl ⟨by rw [h1];rfl,h2⟩
   ·refine .inr ⟨Gt (Dv u q (if p.copy=true then x else p.b)).out (if p.copy=true then x else p.b)++o,by rw [h1];rfl,h2,?_⟩
    rw [h3,wr_app,wr_rdO,AaI]
theorem wr_lits (w:List UInt8) (x:UInt8):Gt (lits w) x=w:=by
 unfold Gt lits
 rw [AbV]
 induction w with
 | nil=>rfl
 | cons b w ih=>rw [Aar,ih];rfl
theorem rd_lt {u:Tr} (hu:TrOk u) {like:UInt8}:∀ (l:List Pc) {r:dR},r.at_<u.moves.length→(l.foldl (Of u like) r).at_<u.moves.length
 | [],_,h=>h
 | p::l,r,h=>by
  rw [Aao]
  refine rd_lt hu l ?_
  unfold Of
  split
  ·exact h
  ·split
   ·exact h
   ·rename_i h2
    have:=hu.mv h (uD like p)
    show (Dv u r.at_ (uD like p)).to.toNat<_
    omega
def Ut (t u:Tr) (s:QQ) (like:UInt8):Option QQ:=if (Li t u s like).stuck=true then none else some ((Dv t s.1 like).to.toNat,(Li t u s like).at_)
def Uu (t u:Tr) (l:List QQ) (s:QQ) (like:UInt8):Mv:=if (Li t u s like).stuck=true then ⟨-1,[]⟩ else ⟨(Bc ((Dv t s.1 like).to.toNat,(Li t u s like).at_) l:Nat),(Li t u s like).out⟩
theorem comP_eq {t u:Tr} {s:QQ} (c:List Nat) (l:List QQ) (row:List Mv):∃ m,Tc t u s (l,row) c=(l++m,row++[Uu t u (l++m) s (UInt8.ofNat (Io c))])∧(∀ to,Ut t u s (UInt8.ofNat (Io c))=some to→to∈l++m)∧(l.Nodup→(l++m).Nodup)∧∀ x∈m,Ut t u s (UInt8.ofNat (Io c))=some x:=by
 unfold Tc Uu Ut
 dsimp only
 by_cases hs:(Li t u s (UInt8.ofNat (Io c))).stuck=true
 ·simp only [hs,if_true]
  exact ⟨[],by simp,(fun to h=>by cases h),fun h=>by simpa using h,(fun x hx=>by cases hx)⟩
 ·simp only [hs,if_false,AbK]
  obtain ⟨to,hto⟩:∃ to:QQ,to=((Dv t s.1 (UInt8.ofNat (Io c))).to.toNat,(Li t u s (UInt8.ofNat (Io c))).at_):=⟨_,rfl⟩
  rw [← hto]
  by_cases hp:Bc to l<l.length
  ·rw [if_pos hp]
   refine ⟨[],by simp,fun x hx=>?_,fun h=>by simpa using h,(fun x hx=>by cases hx)⟩
   injection hx with hx;subst hx;simpa using Cb.1 hp
  ·rw [if_neg hp]
   have hno:to∉l:=fun hm=>hp (Cb.2 hm)
   refine ⟨[to],by rw [Ez hno],fun x hx=>?_,fun hn=>?_,fun x hx=>by rw [AaE.1 hx]⟩
   ·injection hx with hx;subst hx;simp
   ·rw [AbQ]
    exact ⟨hn,by simp,fun a ha b hb e=>hno Z35⟩
theorem jM {t u:Tr} {l m:List QQ} {s:QQ} {like:UInt8} (h:∀ to,Ut t u s like=some to→to∈l):Uu t u (l++m) s like=Uu t u l s like:=by
 unfold Uu
 by_cases hs:(Li t u s like).stuck=true
 ·rw [if_pos hs,if_pos hs]
 ·rw [if_neg hs,if_neg hs]
  have:=h _ (by unfold Ut;rw [if_neg hs])
  rw [Fw this]
theorem jN {t u:Tr} {s:QQ} {ok:QQ→Prop}:∀ (cs:List (List Nat)) (l:List QQ) (row:List Mv),l.Nodup→(∀ x∈l,ok x)→(∀ c∈cs,∀ to,Ut t u s (UInt8.ofNat (Io c))=some to→ok to) →
  ∃ m,cs.foldl (Tc t u s) (l,row)=(l++m,row++cs.map fun c=>Uu t u (l++m) s (UInt8.ofNat (Io c)))∧(l++m).Nodup∧(∀ x∈l++m,ok x)∧∀ c∈cs,∀ to,Ut t u s (UInt8.ofNat (Io c))=some to→to∈l++m
 | [],l,row,hn,hl,_=>⟨[],by simp,by simpa using hn,by simpa using hl,(fun c hc=>by cases hc)⟩
 | c::cs,l,row,hn,hl,hg=>by
  obtain ⟨m1,e1,h1,h2,h3⟩:=comP_eq (t:=t) (u:=u) (s:=s) c l row
  obtain ⟨m2,e2,h4,h5,h6⟩:=jN (t:=t) (u:=u) (s:=s) (ok:=ok) cs (l++m1) (row++[Uu t u (l++m1) s (UInt8.ofNat (Io c))]) (h2 hn) (fun x hx=>by
   rcases AaS.1 hx with hx | hx
   ·exact hl x hx
   ·exact hg c AaK x (h3 x hx)) fun d hd=>hg d (AaG _ hd)
  refine ⟨m1++m2,?_,by rw [← AaI];exact h4,fun x hx=>h5 x (by rw [AaI];exact hx),fun d hd to hto=>?_⟩
  ·rw [Aao,e1,e2,AaI,AaI]
   simp only [Aar,Abc,AbA]
   rw [← AaI l m1 m2,jM (m:=m2) h1]
  ·rw [← AaI]
   rcases AaV.1 hd with rfl | hd
   ·exact AaY _ (h1 to hto)
   ·exact h6 d hd to hto
structure ECI (t u:Tr) (cls:List (List Nat)) (ok:QQ→Prop) (i:Nat) (l:List QQ) (rows:List (List Mv)):Prop where
 nd:l.Nodup
 ok:∀ x∈l,ok x
 hd:l[0]?=some (0,0)
 il:i≤l.length
 rl:rows.length=i
 rw:∀ j,j<i→∀ s,l[j]?=some s→rows.getD j []=(cls.map fun c=>Uu t u l s (UInt8.ofNat (Io c)))∧∀ c∈cls,∀ to,Ut t u s (UInt8.ofNat (Io c))=some to→to∈l
theorem qN {t u:Tr} {cls:List (List Nat)} {ok:QQ→Prop} {N:Nat} (hok:∀ s,ok s→∀ c∈cls,∀ to,Ut t u s (UInt8.ofNat (Io c))=some to→ok to) (hN:∀ l:List QQ,l.Nodup→(∀ x∈l,ok x)→l.length≤N) :
  ∀ (f i:Nat) {l:List QQ} {rows:List (List Mv)},ECI t u cls ok i l rows→N<f+i→∃ l' rows',Us t u cls f i l rows=some (l',rows')∧ECI t u cls ok l'.length l' rows'
 | 0,i,l,rows,h,hf=>by
  have:=hN l h.nd h.ok;have:=h.il;omega
 | f+1,i,l,rows,h,hf=>by
  rw [Us]
  cases hs:l[i]? with
  | none =>
   have hil:i=l.length:=by
    have:=h.il
    rcases AaM i l.length with h1 | h1
    ·rw [AaA h1] at hs;cases hs
    ·omega
   subst hil
   exact ⟨l,rows,rfl,h⟩
  | some s =>
   have hi:i<l.length:=by
    rcases AaM i l.length with h4 | h4
    ·exact h4
    ·rw [AaL h4] at hs;cases hs
   obtain ⟨m,e,h1,h2,h3⟩:=jN (t:=t) (u:=u) (s:=s) (ok:=ok) cls l [] h.nd h.ok (hok s (h.ok s (AaF hs)))
   dsimp only
   rw [e]
   refine qN hok hN f (i+1) ⟨h1,h2,?_,by rw [AaB];omega,by rw [AaB,h.rl];rfl,fun j hj s' hs'=>?_⟩ Bm
   ·have h0:=h.hd
    rw [AaN Bm];exact h0
   ·rcases AaM j i with hji | hji
    ·rw [AaN Bm] at hs'
     obtain ⟨h4,h5⟩:=h.rw j hji s' hs'
     refine ⟨?_,fun c hc to hto=>AaY _ (h5 c hc to hto)⟩
     rw [Mc (by rw [h.rl];exact hji),h4]
     exact AbX fun c hc=>(jM (h5 c hc)).symm
    ·obtain rfl:j=i:=by omega
     rw [AaN hi,hs] at hs'
     injection hs' with hs';subst hs'
     refine ⟨?_,h3⟩
     rw [AaH,AaW (by rw [h.rl];exact AaR _),h.rl,Aaw];rfl
def qqOk (t u:Tr) (s:QQ):Prop:=s.1<t.moves.length∧s.2<u.moves.length
theorem qq_le {t u:Tr} (l:List QQ) (hn:l.Nodup) (h:∀ x∈l,qqOk t u x):l.length≤t.moves.length*u.moves.length:=by
 have h2:=len_le (l:=l.map fun s=>s.1*u.moves.length+s.2) (n:=t.moves.length*u.moves.length) (nodup_map hn fun x hx y hy e=>by
   obtain ⟨a1,a2⟩:=h x hx
   obtain ⟨b1,b2⟩:=h y hy
   have f1:(x.1*u.moves.length+x.2) / u.moves.length=x.1:=by rw [AcB,AbZ Bm,AbS Bm,Abn]
   have f2:(y.1*u.moves.length+y.2) / u.moves.length=y.1:=by rw [AcB,AbZ Bm,AbS Bm,Abn]
   have e1:x.1=y.1:=by rw [← f1,← f2,e]
   rw [e1] at e
   exact Prod.ext e1 Bm) (fun z hz=>by
   obtain ⟨s,hs,rfl⟩:=Aaf.1 hz
   obtain ⟨a1,a2⟩:=h s hs
   have h1:(s.1+1)*u.moves.length≤t.moves.length*u.moves.length:=AbL _ a1
   rw [AcN,AcE] at h1
   omega)
 rwa [AaC] at h2
theorem dS {cls cells:List (List Nat)} (hp:PartOk cls) (hf:cQ cells cls) {cell:List Nat} (hc:cell∈cells) {x y:UInt8} (hx:Bv cell x=true) (hy:Bv cell y=true):(Cv cls).getD x.toNat 0=(Cv cls).getD y.toNat 0:=by
 have h1:=Lr hp x
 have h2:=Gy hp (y:=x) h1
 have e:Bv (cls.getD ((Cv cls).getD x.toNat 0) []) x=true:=by
  have h3:Bv ((⟨cls,[List.replicate cls.length 0],[false]⟩:Cy).cls.getD ((Av ⟨cls,[List.replicate cls.length 0],[false]⟩).cell.getD x.toNat 0) []) x=true:=by rw [h2];simp
  exact h3
 have h4:(Cv cls).getD x.toNat 0<cls.length:=h1
 have h5:=hf cell hc _ (by rw [gD h4];exact AaD h4:cls.getD ((Cv cls).getD x.toNat 0) []∈cls) x y hx hy
 rw [e] at h5
 have h6:=Gy hp (y:=y) h1
 have h7:Bv (cls.getD ((Cv cls).getD x.toNat 0) []) y=decide ((Cv cls).getD y.toNat 0=(Cv cls).getD x.toNat 0):=h6
 rw [← h5] at h7
 exact (of_decide_eq_true h7.symm).symm
theorem cQ.left {cells a b:List (List Nat)} (h:cQ cells (a++b)):cQ cells a:=fun c hc d hd=>h c hc d (AaY _ hd)
theorem cQ.right {cells a b:List (List Nat)} (h:cQ cells (a++b)):cQ cells b:=fun c hc d hd=>h c hc d (AbF _ hd)
theorem end_eq {t u:Tr} {s:QQ}:Iu t u s=if t.final.getD s.1 false=true then Bo u s.2 (t.ends.getD s.1 []) else none:=by
 unfold Iu
 by_cases hf:t.final.getD s.1 false=true
 ·rw [if_pos hf]
  have h:=nL (u:=u) (like:=0) (x:=0) rfl (lits (t.ends.getD s.1 [])) s.2 []
  rw [wr_lits] at h
  have e:(lits (t.ends.getD s.1 [])).foldl (Of u 0) ⟨s.2,[],false⟩=cT t u s:=rfl
  rw [e] at h
  have ha:=Td (u:=u) (t.ends.getD s.1 []) [] s.2
  rw [AaX] at ha
  rcases h with ⟨h1,h2⟩ | ⟨o,h1,h2,h3⟩
  ·rw [if_neg (fun h=>by rw [h2] at h;exact absurd h.2.1 Lk),ha,h1]
  ·rw [ha,h1]
   dsimp only
   rw [Bo]
   by_cases hu:u.final.getD (cT t u s).at_ false=true
   ·rw [if_pos ⟨hf,h2,hu⟩,if_pos hu,h3];rfl
   ·rw [if_neg (fun h=>hu h.2.2),if_neg hu];rfl
 ·rw [if_neg hf,if_neg (fun h=>hf h.1)]
def comS (t u:Tr) (s:QQ) (w:List UInt8):Option (List UInt8):=match Bo t s.1 w with
 | none=>none
 | some o=>Bo u s.2 o
structure ComOk (t u C:Tr):Prop where
 part:PartOk C.cls
 n1:1≤C.moves.length
 fl:C.final.length=C.moves.length
 el:C.ends.length=C.moves.length
 le:C.moves.length≤t.moves.length*u.moves.length
 run:∀ w,Bo C 0 w=comS t u (0,0) w
theorem com_ok {t u:Tr} (ht:TrOk t) (hu:TrOk u):∃ C,uE t u=some C∧ComOk t u C:=by
 have hmul:t.moves.length*u.moves.length≤64*64:=Abg ht.n2 hu.n2
 obtain ⟨hP,hF,_⟩:=cells_ok7 (l:=t.cls++u.cls) fun c hc=>by
  rcases AaS.1 hc with hc | hc
  ·exact ht.part.c4 c hc
  ·exact hu.part.c4 c hc
 obtain ⟨cls,hcls⟩:∃ c,c=Gg (t.cls++u.cls):=⟨_,rfl⟩
 rw [← hcls] at hP hF
 have hpart:=hP.part
 have hlike:∀ c∈cls,∀ x,Bv c x=true→∀ p q,Dv t p (UInt8.ofNat (Io c))=Dv t p x∧Dv u q (UInt8.ofNat (Io c))=Dv u q x∧(Cv u.cls).getD x.toNat 0=(Cv u.cls).getD (UInt8.ofNat (Io c)).toNat 0:=fun c hc x hx p q=>by
  have hl:=(fQ (hP.c4 c hc) (hP.ne c hc)).1
  have e1:=dS ht.part hF.left hc hl hx
  have e2:=dS hu.part hF.right hc hl hx
  exact ⟨fR e1,fR e2,e2.symm⟩
 have hok:∀ s,qqOk t u s→∀ c∈cls,∀ to,Ut t u s (UInt8.ofNat (Io c))=some to→qqOk t u to:=fun s hs c hc to hto=>by
  unfold Ut at hto
  split at hto
  ·cases hto
  ·rename_i h1
   injection hto with hto
   subst hto
   have h2:=ht.mv hs.1 (UInt8.ofNat (Io c))
   refine ⟨?_,rd_lt hu _ hs.2⟩
   show (Dv t s.1 (UInt8.ofNat (Io c))).to.toNat<_
   have:=ht.n1
   omega
 have h00:qqOk t u (0,0):=⟨ht.n1,hu.n1⟩
 have hst:ECI t u cls (qqOk t u) 0 [(0,0)] []:=⟨by simp,fun x hx=>by rw [AaE.1 hx];exact h00,rfl,by simp,rfl,fun j hj=>by omega⟩
 obtain ⟨l,rows,e,E⟩:=qN hok (fun l hn h=>qq_le l hn h) 5000 0 hst Bm
 have hle:=qq_le l E.nd E.ok
 have hl0:0<l.length:=by
  have:=E.hd
  rcases AbP l.length with h0 | h0
  ·rw [AaL Bm] at this;cases this
  ·exact h0
 obtain ⟨C,hC⟩:∃ C:Tr,C=⟨cls,rows,l.map fun s=>(Iu t u s).isSome,l.map fun s=>(Iu t u s).getD []⟩:=⟨_,rfl⟩
 refine ⟨C,by unfold uE;rw [← hcls,e,hC],by rw [hC];exact hpart,by rw [hC];show 1≤rows.length;rw [E.rl];exact hl0,by rw [hC];show (l.map _).length=rows.length;rw [AaC,E.rl],by rw [hC];show (l.map _).length=rows.length;rw [AaC,E.rl],by rw [hC];show rows.length≤_;rw [E.rl];exact hle,fun w=>?_⟩
 have key:∀ (w:List UInt8) i s,l[i]?=some s→Bo C i w=comS t u s w:=by
  intro w
  induction w with
  | nil =>
   intro i s hi
   have hil:i<l.length:=by
    rcases AaM i l.length with h4 | h4
    ·exact h4
    ·rw [AaL h4] at hi;cases hi
   rw [AaA hil] at hi
   injection hi with hi
   have hfin:C.final.getD i false=(Iu t u s).isSome:=by
    rw [hC];show (l.map _).getD i false=_
    rw [gD (by rw [AaC];exact hil),Aaa,hi]
   have hend:C.ends.getD i []=(Iu t u s).getD []:=by
    rw [hC];show (l.map _).getD i []=_
    rw [gD (by rw [AaC];exact hil),Aaa,hi]
   unfold comS
   rw [Bo,Bo,hfin,hend,end_eq]
   by_cases hf:t.final.getD s.1 false=true
   ·rw [if_pos hf,if_pos hf]
    dsimp only
    cases Bo u s.2 (t.ends.getD s.1 []) with
    | none=>rfl
    | some o=>rfl
   ·rw [if_neg hf,if_neg hf];rfl
  | cons x w ih =>
   intro i s hi
   have hil:i<l.length:=by
    rcases AaM i l.length with h4 | h4
    ·exact h4
    ·rw [AaL h4] at hi;cases hi
   obtain ⟨h1,h2⟩:=E.rw i hil s hi
   have hk:(Cv cls).getD x.toNat 0<cls.length:=Lr hpart x
   obtain ⟨c,hce⟩:∃ c,c=cls[(Cv cls).getD x.toNat 0]:=⟨_,rfl⟩
   have hcm:c∈cls:=by rw [hce];exact AaD hk
   have hcx:Bv c x=true:=by
    have h3:=Gy hpart (y:=x) hk
    have h4:Bv (cls.getD ((Cv cls).getD x.toNat 0) []) x=decide ((Cv cls).getD x.toNat 0=(Cv cls).getD x.toNat 0):=h3
    rw [gD hk,← hce] at h4
    rw [h4];simp
   have hmv:Dv C i x=Uu t u l s (UInt8.ofNat (Io c)):=by
    unfold Dv
    rw [hC]
    show (rows.getD i []).getD ((Cv cls).getD x.toNat 0) noMv=_
    rw [h1,gD (by rw [AaC];exact hk),Aaa,← hce]
   obtain ⟨m1,m2,m3⟩:=hlike c hcm x hcx s.1 s.2
   have hR:Li t u s (UInt8.ofNat (Io c))=(Dv t s.1 x).out.foldl (Of u (UInt8.ofNat (Io c))) ⟨s.2,[],decide ((Dv t s.1 x).to<0)⟩:=by unfold Li;rw [m1]
   rw [Bo,hmv]
   unfold comS
   rw [Bo]
   by_cases h0:(Dv t s.1 x).to<0
   ·have hstk:(Li t u s (UInt8.ofNat (Io c))).stuck=true:=by rw [hR];exact rd_stuck _ (by simpa using h0)
    unfold Uu
    rw [if_pos hstk,if_pos (by show (-1:Int)<0;decide),if_pos h0]
   ·have h0d:decide ((Dv t s.1 x).to<0)=false:=by simpa using h0
    rw [h0d] at hR
    have hrd:=nL (u:=u) m3 (Dv t s.1 x).out s.2 []
    rw [← hR] at hrd
    rw [if_neg h0]
    rcases hrd with ⟨r1,r2⟩ | ⟨o,r1,r2,r3⟩
    ·unfold Uu
     rw [if_pos r2,if_pos (by show (-1:Int)<0;decide)]
     cases Bo t (Dv t s.1 x).to.toNat w with
     | none=>rfl
     | some o =>
      simp only [Option.map_some]
      rw [Td,r1]
    ·have hto:Ut t u s (UInt8.ofNat (Io c))=some ((Dv t s.1 x).to.toNat,(Li t u s (UInt8.ofNat (Io c))).at_):=by
      unfold Ut;rw [if_neg (by rw [r2];simp),m1]
     have hmem:=h2 c hcm _ hto
     have hpm:=Cb.2 hmem
     have hE:Uu t u l s (UInt8.ofNat (Io c))=⟨(Bc ((Dv t s.1 x).to.toNat,(Li t u s (UInt8.ofNat (Io c))).at_) l:Nat),(Li t u s (UInt8.ofNat (Io c))).out⟩:=by
      unfold Uu;rw [if_neg (by rw [r2];simp),m1]
     rw [hE,if_neg (by show ¬ ((_:Nat):Int)<0;omega)]
     show (Bo C (((Bc ((Dv t s.1 x).to.toNat,(Li t u s (UInt8.ofNat (Io c))).at_) l:Nat):Int)).toNat w).map (Gt (Li t u s (UInt8.ofNat (Io c))).out x++·)=_
     rw [AbE,ih _ _ (by rw [AaA hpm,Ec hpm]),r3]
     unfold comS
     dsimp only
     cases Bo t (Dv t s.1 x).to.toNat w with
     | none=>rfl
     | some o2 =>
      simp only [Option.map_some]
      rw [Td,r1];rfl
 exact key w 0 _ E.hd
end Cn7
end Go.Proofs.YtmohebpaonkaeaaGreatDoor
namespace Go.Proofs.YtmohebpaonkaeaaGreatDoor
open Go Go.Ex
namespace Cn7
theorem jO {a b:List Nat} (ha:Cj a) (hb:Cj b) (h:∀ y,¬ (Bv a y=true∧Bv b y=true)):Ef a b=[0,0,0,0]:=by
 refine Xf (Jl ha hb) Ov fun y=>?_
 rw [Mm ha hb,show Bv [0,0,0,0] y=false from Lq y]
 cases h1:Bv a y<;>cases h2:Bv b y<;>simp
 exact h y ⟨h1,h2⟩
theorem qO {a:List Nat} (ha:Cj a) (h:∀ y,Bv a y=true):a=Jw [0,0,0,0]:=Xf ha full_ok fun y=>by rw [h y,has_full]
theorem aR:∀ (l:List (List Nat)) (seen:List Nat),Cj seen→(∀ c∈l,Cj c)→(∀ c∈l,∃ y,Bv c y=true)→(l.Pairwise fun a b=>∀ y,¬ (Bv a y=true∧Bv b y=true)) →
  (∀ c∈l,∀ y,¬ (Bv seen y=true∧Bv c y=true))→(∀ y,Bv seen y=true∨∃ c∈l,Bv c y=true)→clsOk l seen=true
 | [],seen,hs,_,_,_,_,hcv=>by
  have:seen=Jw [0,0,0,0]:=qO hs fun y=>(hcv y).resolve_right fun ⟨c,hc,_⟩=>by cases hc
  rw [this];decide
 | c::l,seen,hs,h4,hne,hd,hsd,hcv=>by
  have hc:=h4 c AaK
  have hd':=AbO.1 hd
  have ih:=aR l (Df seen c) (Gf hs hc) (fun d hd=>h4 d (AaG _ hd)) (fun d hd=>hne d (AaG _ hd)) hd'.2
   (fun d hdm y ⟨h1,h2⟩=>by
    rw [Is hs hc,Abv] at h1
    rcases h1 with h1 | h1
    ·exact hsd d (AaG _ hdm) y ⟨h1,h2⟩
    ·exact hd'.1 d hdm y ⟨h1,h2⟩)
   (fun y=>by
    rcases hcv y with h | ⟨d,hdm,h⟩
    ·exact .inl (by rw [Is hs hc,h];rfl)
    ·rcases AaV.1 hdm with rfl | hdm
     ·exact .inl (by rw [Is hs hc,h,Bool.or_true])
     ·exact .inr ⟨d,hdm,h⟩)
  have h0:c≠[0,0,0,0]:=(Ur hc).2 (hne c AaK)
  have h1:=jO hs hc (hsd c AaK)
  rw [clsOk,ih,h1,decide_eq_false h0];rfl
theorem yF:∀ (l:List (List Nat)) (seen:List Nat),Cj seen→(∀ c∈l,Cj c)→(∀ c∈l,∃ y,Bv c y=true)→(l.Pairwise fun a b=>∀ y,¬ (Bv a y=true∧Bv b y=true)) →
  (∀ c∈l,∀ y,¬ (Bv seen y=true∧Bv c y=true))→(∀ y,Bv seen y=true∨∃ c∈l,Bv c y=true)→partB l seen=true
 | [],seen,hs,_,_,_,_,hcv=>by
  have:seen=Jw [0,0,0,0]:=qO hs fun y=>(hcv y).resolve_right fun ⟨c,hc,_⟩=>by cases hc
  rw [this];decide +kernel
 | c::l,seen,hs,h4,hne,hd,hsd,hcv=>by
  have hc:=h4 c AaK
  have hd':=AbO.1 hd
  have ih:=yF l (Df seen c) (Gf hs hc) (fun d hd=>h4 d (AaG _ hd)) (fun d hd=>hne d (AaG _ hd)) hd'.2
   (fun d hdm y ⟨h1,h2⟩=>by
    rw [Is hs hc,Abv] at h1
    rcases h1 with h1 | h1
    ·exact hsd d (AaG _ hdm) y ⟨h1,h2⟩
    ·exact hd'.1 d hdm y ⟨h1,h2⟩)
   (fun y=>by
    rcases hcv y with h | ⟨d,hdm,h⟩
    ·exact .inl (by rw [Is hs hc,h];rfl)
    ·rcases AaV.1 hdm with rfl | hdm
     ·exact .inl (by rw [Is hs hc,h,Bool.or_true])
     ·exact .inr ⟨d,hdm,h⟩)
  have h0:¬ Gr c=0:=fun h=>(Ur hc).2 (hne c AaK) (tZ hc h)
  have h1:=jO hs hc (hsd c AaK)
  have h2:Gr ([0,0,0,0]:List Nat)=0:=by decide
  rw [partB,ih,h1,h2,decide_eq_true h0];rfl
theorem Pt.clsOk {l:List (List Nat)} (h:Pt l):clsOk l [0,0,0,0]=true:=aR l _ Ov h.c4 h.ne h.dj (fun c _ y ⟨h1,_⟩=>by
 have h2:Bv noC y=true:=h1
 rw [Lq] at h2;cases h2) fun y=>.inr (h.cv y)
theorem Pt.partB {l:List (List Nat)} (h:Pt l):partB l [0,0,0,0]=true:=yF l _ Ov h.c4 h.ne h.dj (fun c _ y ⟨h1,_⟩=>by
 have h2:Bv noC y=true:=h1
 rw [Lq] at h2;cases h2) fun y=>.inr (h.cv y)
theorem DOk.partOk {D:Cy} (h:DOk D):PartOk D.cls :=
 ⟨by simp,by simp,by simp,h.k2,h.c4,h.ne,h.un,h.cv,fun r hr=>by
  have:r=List.replicate D.cls.length 0:=AaE.1 hr
  rw [this]
  exact ⟨AaJ,fun x hx=>by rw [Aba hx];show 0<1;omega⟩⟩
theorem PartOk.k1 {l:List (List Nat)} (h:PartOk l):1≤l.length:=by
 obtain ⟨i,hi,_⟩:=h.cv 0
 have hi':i<l.length:=hi
 omega
theorem validD_of {D:Cy} (h:DOk D) (hn:D.next.length≤64):Mb D=true:=by
 have h1:=h.partOk.pt.clsOk
 have h2:=h.partOk.k1
 have h3:(D.next.all fun r=>decide (r.length=D.cls.length) && r.all fun x=>decide (x<D.next.length))=true:=by
  rw [AbD]
  intro r hr
  obtain ⟨h4,h5⟩:=h.row r hr
  rw [decide_eq_true h4,AcF,AbD]
  exact fun x hx=>decide_eq_true (h5 x hx)
 unfold Mb
 rw [h1,h3,decide_eq_true h.n1,decide_eq_true hn,decide_eq_true h.al,decide_eq_true h2,decide_eq_true h.k2];rfl
theorem validT_of {t:Tr} (h:TrOk t):Gh t=true:=by
 have h1:=h.part.pt.partB
 have h3:((List.range t.moves.length).all fun s=>decide ((t.moves.getD s []).length=t.cls.length) && (decide ((t.ends.getD s []).length≤8) && ((t.final.getD s false || decide ((t.ends.getD s []).length≤0)) && (t.moves.getD s []).all (nI t.moves.length))))=true:=by
  rw [AbD]
  intro s hs
  have hs':=Aae.1 hs
  obtain ⟨h4,h5⟩:=h.en s hs'
  obtain ⟨h6,h7⟩:=h.row (t.moves.getD s []) (by rw [gD hs'];exact AaD hs')
  rw [decide_eq_true h6,decide_eq_true h4]
  have h8:(t.moves.getD s []).all (nI t.moves.length)=true:=by rw [AbD];exact h7
  rw [h8]
  rcases h5 with h5 | h5
  ·rw [h5];rfl
  ·rw [decide_eq_true h5,Bool.or_true];rfl
 unfold Gh
 rw [h1,h3,decide_eq_true h.n1,decide_eq_true h.n2,decide_eq_true h.fl,decide_eq_true h.el,decide_eq_true h.part.k2];rfl
theorem trOk_of {t:Tr} (hp:PartOk t.cls) (h:Gh t=true):TrOk t:=by
 unfold Gh at h
 simp only [Aah,decide_eq_true_eq] at h
 obtain ⟨h1,h2,h3,h4,_,_,h7⟩:=h
 rw [AbD] at h7
 refine ⟨hp,h1,h2,h3,h4,fun r hr=>?_,fun s hs=>?_⟩
 ·obtain ⟨s,hs,rfl⟩:=AaQ.1 hr
  have:=h7 s (Aae.2 hs)
  simp only [Aah,decide_eq_true_eq,Abv,AbD] at this
  rw [gD hs] at this
  exact ⟨this.1,this.2.2.2⟩
 ·have:=h7 s (Aae.2 hs)
  simp only [Aah,decide_eq_true_eq,Abv] at this
  exact ⟨this.2.1,this.2.2.1⟩
end Cn7
end Go.Proofs.YtmohebpaonkaeaaGreatDoor
namespace Go.Proofs.YtmohebpaonkaeaaGreatDoor
open Go Go.Ex
open Cn7
structure Nt where
 read:List (List (UInt8×List Nat))
 free:List (List Nat)
def Eb (n:Nt):Nt:=⟨n.read++[[]],n.free++[[]]⟩
def Ui (m:List (UInt8×List Nat)) (b:UInt8) (to:Nat):List (UInt8×List Nat) :=
 let i:=Bc b (m.map (·.1))
 if i<m.length then m.set i (b,(m.getD i (0,[])).2++[to]) else m++[(b,[to])]
def Iv (n:Nt) (s:Nat) (b:UInt8) (to:Nat):Nt:={ n with read:=n.read.set s (Ui (n.read.getD s []) b to) }
def aT (n:Nt) (s:Nat) (to:Nat):Nt:={ n with free:=n.free.set s (n.free.getD s []++[to]) }
def El (n:Nt) (s:Nat):List UInt8→Nat→Nt
 | [],to=>aT n s to
 | [b],to=>Iv n s b to
 | b::c::w,to=>El (Iv (Eb n) s b n.read.length) n.read.length (c::w) to
structure Kc where
 net:Nt
 keys:List QQ
 ats:List Nat
def Me (t:Tr) (d:Tb) (f:Kc→Nat→Nat→Option (Kc×Nat)) (p q at_:Nat) (o:Option Kc) (b:Nat):Option Kc :=
 match o with
 | none=>none
 | some st =>
  if (Dv t p (UInt8.ofNat b)).to<0 then some st else
   match f st (Dv t p (UInt8.ofNat b)).to.toNat (Cn7.step d q b) with
   | none=>none
   | some (s2,to)=>some { s2 with net:=El s2.net at_ (Gt (Dv t p (UInt8.ofNat b)).out (UInt8.ofNat b)) to }
def Ii (t:Tr) (d:Tb) (B:List Nat):Nat→Kc→Nat→Nat→Option (Kc×Nat)
 | 0,_,_,_=>none
 | f+1,st,p,q =>
  if Bc (p,q) st.keys<st.keys.length then some (st,st.ats.getD (Bc (p,q) st.keys) 0) else
   match B.foldl (Me t d (Ii t d B f) p q st.net.read.length) (some ⟨Eb st.net,st.keys++[(p,q)],st.ats++[st.net.read.length]⟩) with
   | none=>none
   | some s2=>some (if t.final.getD p false=true∧d.acc.getD q false=true then { s2 with net:=El s2.net st.net.read.length (t.ends.getD p []) 0 } else s2,st.net.read.length)
def jP (t:Tr) (d:Tb):Option (Nt×Nat):=match Ii t d (List.range 256) 4097 ⟨Eb ⟨[],[]⟩,[],[]⟩ 0 0 with
 | none=>none
 | some (st,at_)=>some (st.net,at_)
namespace Cn7
inductive Gz (n:Nt):Nat→List UInt8→Nat→Prop
 | nil (s:Nat):Gz n s [] s
 | free {s to r:Nat} {w:List UInt8}:to∈n.free.getD s []→Gz n to w r→Gz n s w r
 | read {s to r:Nat} {b:UInt8} {l:List Nat} {w:List UInt8}:(b,l)∈n.read.getD s []→to∈l→Gz n to w r→Gz n s (b::w) r
theorem Gz.trans {n:Nt} {a b c:Nat} {u v:List UInt8} (h:Gz n a u b) (h2:Gz n b v c):Gz n a (u++v) c:=by
 induction h with
 | nil s=>exact h2
 | free h3 _ ih=>exact .free h3 (ih h2)
 | read h3 h4 _ ih=>exact .read h3 h4 (ih h2)
def Edge (n:Nt) (s:Nat):Option UInt8→Nat→Prop
 | none,to=>to∈n.free.getD s []
 | some b,to=>∃ l,(b,l)∈n.read.getD s []∧to∈l
theorem Gz.mono {n m:Nt} (h:∀ s b to,Edge n s b to→Edge m s b to) {a c:Nat} {u:List UInt8} (hp:Gz n a u c):Gz m a u c:=by
 induction hp with
 | nil s=>exact .nil s
 | free h3 _ ih=>exact .free (h _ none _ h3) ih
 | read h3 h4 _ ih =>
  obtain ⟨l,h5,h6⟩:=h _ (some _) _ ⟨_,h3,h4⟩
  exact .read h5 h6 ih
structure NtOk (n:Nt):Prop where
 fl:n.free.length=n.read.length
 kd:∀ m∈n.read,(m.map (·.1)).Nodup
theorem Pu {n:Nt} (h:NtOk n) {s:Nat} {b:Option UInt8} {to:Nat}:Edge (Eb n) s b to↔Edge n s b to:=by
 have hf:(n.free++[[]]).getD s []=n.free.getD s []:=by
  rcases AaM s n.free.length with h1 | h1
  ·exact Mc h1
  ·rw [gD_le h1,AaH,AaW h1]
   cases s-n.free.length with
   | zero=>rfl
   | succ k=>rfl
 have hr:(n.read++[[]]).getD s []=n.read.getD s []:=by
  rcases AaM s n.read.length with h1 | h1
  ·exact Mc h1
  ·rw [gD_le h1,AaH,AaW h1]
   cases s-n.read.length with
   | zero=>rfl
   | succ k=>rfl
 cases b with
 | none=>show to∈(n.free++[[]]).getD s []↔_;rw [hf];rfl
 | some b=>show (∃ l,(b,l)∈(n.read++[[]]).getD s []∧to∈l)↔_;rw [hr];rfl
theorem qP {n:Nt} (h:NtOk n):NtOk (Eb n) :=
 ⟨by unfold Eb;simp [h.fl],fun m hm=>by
  rcases AaS.1 hm with hm | hm
  ·exact h.kd m hm
  ·rw [AaE.1 hm];exact Aaz⟩
theorem iZ {m:List (UInt8×List Nat)} (hn:(m.map (·.1)).Nodup) {b c:UInt8} {to r:Nat}:(∃ l,(c,l)∈Ui m b to∧r∈l)↔(∃ l,(c,l)∈m∧r∈l)∨(c=b∧r=to):=by
 unfold Ui
 dsimp only
 by_cases hp:Bc b (m.map (·.1))<m.length
 ·rw [if_pos hp]
  obtain ⟨i,hi⟩:∃ i,i=Bc b (m.map (·.1)):=⟨_,rfl⟩
  rw [← hi] at hp ⊢
  have hb:(m[i]'hp).1=b:=by
   have h1:Bc b (m.map (·.1))<(m.map (·.1)).length:=by rw [AaC,← hi];exact hp
   have h2:=Ec h1
   rw [Aaa] at h2
   simp only [← hi] at h2
   exact h2
  rw [gD hp]
  constructor
  ·rintro ⟨l,h1,h2⟩
   rcases AbB h1 with h3 | h3
   ·exact .inl ⟨l,h3,h2⟩
   ·injection h3 with h4 h5
    rw [h5] at h2
    rcases AaS.1 h2 with h6 | h6
    ·exact .inl ⟨_,by rw [h4,← hb];exact AaD hp,h6⟩
    ·exact .inr ⟨h4,AaE.1 h6⟩
  ·rintro (⟨l,h1,h2⟩ | ⟨rfl,rfl⟩)
   ·obtain ⟨j,hj,hje⟩:=AaQ.1 h1
    by_cases e:j=i
    ·subst e
     refine ⟨l++[to],?_,AaY _ h2⟩
     have hc:c=b:=by rw [← hb,hje]
     have hl:(m[j]'hp).2=l:=by rw [hje]
     rw [hc,hl]
     exact AaQ.2 ⟨j,by rw [AaP];exact hp,by rw [Aby]⟩
    ·refine ⟨l,?_,h2⟩
     exact AaQ.2 ⟨j,by rw [AaP];exact hj,by rw [List.getElem_set_ne (fun h=>e h.symm)];exact hje⟩
   ·refine ⟨(m[i]'hp).2++[r],?_,by simp⟩
    exact AaQ.2 ⟨i,by rw [AaP];exact hp,by rw [Aby]⟩
 ·rw [if_neg hp]
  constructor
  ·rintro ⟨l,h1,h2⟩
   rcases AaS.1 h1 with h3 | h3
   ·exact .inl ⟨l,h3,h2⟩
   ·have h4:=AaE.1 h3
    injection h4 with h5 h6
    rw [h6] at h2
    exact .inr ⟨h5,AaE.1 h2⟩
  ·rintro (⟨l,h1,h2⟩ | ⟨rfl,rfl⟩)
   ·exact ⟨l,AaY _ h1,h2⟩
   ·exact ⟨[r],by simp,by simp⟩
theorem addK_nodup {m:List (UInt8×List Nat)} (hn:(m.map (·.1)).Nodup) (b:UInt8) (to:Nat):((Ui m b to).map (·.1)).Nodup:=by
 unfold Ui
 dsimp only
 by_cases hp:Bc b (m.map (·.1))<m.length
 ·rw [if_pos hp,Aad]
  have h1:Bc b (m.map (·.1))<(m.map (·.1)).length:=by rw [AaC];exact hp
  have h2:=Ec h1
  have h3:(m.map (·.1)).set (Bc b (m.map (·.1))) b=m.map (·.1):=by
   have:=List.set_getElem_self h1
   rw [h2] at this;exact this
  show ((m.map (·.1)).set (Bc b (m.map (·.1))) b).Nodup
  rw [h3];exact hn
 ·rw [if_neg hp,AaU]
  rw [AbQ]
  refine ⟨hn,by simp,fun a ha c hc e=>hp ?_⟩
  have:c=b:=by simpa using hc
  have h2:b∈m.map (·.1):=by rw [← this,← e];exact ha
  have:=Cb.2 h2
  rwa [AaC] at this
theorem Ki {n:Nt} (h:NtOk n) {s:Nat} (hs:s<n.read.length) {c:UInt8} {r z:Nat} {b:Option UInt8} {to:Nat}:Edge (Iv n s c r) z b to↔Edge n z b to∨(z=s∧b=some c∧to=r):=by
 cases b with
 | none =>
  show to∈n.free.getD z []↔to∈n.free.getD z []∨_
  exact ⟨.inl,fun h=>h.resolve_right fun h2=>by cases h2.2.1⟩
 | some b =>
  show (∃ l,(b,l)∈(n.read.set s (Ui (n.read.getD s []) c r)).getD z []∧to∈l)↔(∃ l,(b,l)∈n.read.getD z []∧to∈l)∨_
  rw [Ey hs]
  by_cases e:z=s
  ·subst e
   rw [if_pos rfl,iZ (by rw [gD hs];exact h.kd _ (AaD hs))]
   constructor
   ·rintro (h1 | ⟨rfl,rfl⟩)
    ·exact .inl h1
    ·exact .inr ⟨rfl,rfl,rfl⟩
   ·rintro (h1 | ⟨_,h2,rfl⟩)
    ·exact .inl h1
    ·injection h2 with h2;exact .inr ⟨h2,rfl⟩
  ·rw [if_neg e]
   exact ⟨.inl,fun h=>h.resolve_right fun h2=>e h2.1⟩
theorem qQ {n:Nt} (h:NtOk n) {s:Nat} (hs:s<n.read.length) (c:UInt8) (r:Nat):NtOk (Iv n s c r) :=
 ⟨by show n.free.length=(n.read.set s _).length;rw [AaP];exact h.fl,fun m hm=>by
  rcases AbB hm with hm | rfl
  ·exact h.kd m hm
  ·exact addK_nodup (by rw [gD hs];exact h.kd _ (AaD hs)) _ _⟩
theorem Uv {n:Nt} {s:Nat} (hs:s<n.free.length) {r z:Nat} {b:Option UInt8} {to:Nat}:Edge (aT n s r) z b to↔Edge n z b to∨(z=s∧b=none∧to=r):=by
 cases b with
 | some b =>
  show (∃ l,(b,l)∈n.read.getD z []∧to∈l)↔(∃ l,(b,l)∈n.read.getD z []∧to∈l)∨_
  exact ⟨.inl,fun h=>h.resolve_right fun h2=>by cases h2.2.1⟩
 | none =>
  show to∈(n.free.set s (n.free.getD s []++[r])).getD z []↔to∈n.free.getD z []∨_
  rw [Ey hs]
  by_cases e:z=s
  ·subst e
   rw [if_pos rfl,AaS,AaE]
   constructor
   ·rintro (h1 | rfl)
    ·exact .inl h1
    ·exact .inr ⟨rfl,rfl,rfl⟩
   ·rintro (h1 | ⟨_,_,rfl⟩)
    ·exact .inl h1
    ·exact .inr rfl
  ·rw [if_neg e]
   exact ⟨.inl,fun h=>h.resolve_right fun h2=>e h2.1⟩
theorem free_ok {n:Nt} (h:NtOk n) {s r:Nat}:NtOk (aT n s r) :=
 ⟨by show (n.free.set s _).length=n.read.length;rw [AaP];exact h.fl,h.kd⟩
abbrev Sem:=Nat→List UInt8→Prop
def qR (n:Nt) (S:Sem):Prop:=∀ s b to,Edge n s b to→to<n.read.length∧s<n.read.length∧∀ w,S to w→S s (match b with | none=>w | some c=>c::w)
structure Linked (n m:Nt) (s:Nat) (w:List UInt8) (to:Nat):Prop where
 ok:NtOk m
 ln:n.read.length≤m.read.length
 ub:m.read.length≤n.read.length+w.length
 up:∀ z b r,Edge n z b r→Edge m z b r
 pa:Gz m s w to
 rt:∀ S:Sem,qR n S→(∀ u,S to u→S s (w++u))→∃ S2:Sem,(∀ z,z<n.read.length→S2 z=S z)∧qR m S2
theorem qS:∀ (w:List UInt8) (n:Nt) (s to:Nat),NtOk n→s<n.read.length→to<n.read.length→Linked n (El n s w to) s w to
 | [],n,s,to,h,hs,hto=>by
  have hsf:s<n.free.length:=by rw [h.fl];exact hs
  rw [El]
  refine ⟨free_ok h,AaR _,AaR _,fun z b r he=>(Uv hsf).2 (.inl he),.free ((Uv (b:=none) hsf).2 (.inr ⟨rfl,rfl,rfl⟩)) (.nil to),fun S hR hS=>⟨S,fun _ _=>rfl,fun z b r he=>?_⟩⟩
  rcases (Uv hsf).1 he with he | ⟨rfl,rfl,rfl⟩
  ·exact hR z b r he
  ·exact ⟨hto,hs,fun w hw=>hS w hw⟩
 | [c],n,s,to,h,hs,hto=>by
  rw [El]
  refine ⟨qQ h hs c to,by show _≤(n.read.set s _).length;rw [AaP];exact AaR _,by show (n.read.set s _).length≤_;rw [AaP];omega,fun z b r he=>(Ki h hs).2 (.inl he),?_,fun S hR hS=>⟨S,fun _ _=>rfl,fun z b r he=>?_⟩⟩
  ·obtain ⟨l,h1,h2⟩:=(Ki (b:=some c) h hs).2 (.inr ⟨rfl,rfl,rfl⟩:Edge n s (some c) to∨(s=s∧some c=some c∧to=to))
   exact .read h1 h2 (.nil to)
  ·have e:(Iv n s c to).read.length=n.read.length:=by show (n.read.set s _).length=_;rw [AaP]
   rw [e]
   rcases (Ki h hs).1 he with he | ⟨rfl,rfl,rfl⟩
   ·exact hR z b r he
   ·exact ⟨hto,hs,fun w hw=>hS w hw⟩
 | c::d::w,n,s,to,h,hs,hto=>by
  have hg:=qP h
  have hgl:(Eb n).read.length=n.read.length+1:=by unfold Eb;simp
  have hr:=qQ hg (s:=s) Bm c n.read.length
  have hrl:(Iv (Eb n) s c n.read.length).read.length=n.read.length+1:=by show ((Eb n).read.set s _).length=_;rw [AaP];exact hgl
  have L:=qS (d::w) (Iv (Eb n) s c n.read.length) n.read.length to hr Bm Bm
  rw [El]
  have hup1:∀ z b r,Edge n z b r→Edge (Iv (Eb n) s c n.read.length) z b r:=fun z b r he=>(Ki hg Bm).2 (.inl ((Pu h).2 he))
  refine ⟨L.ok,by have:=L.ln;omega,by have:=L.ub;simp only [AaZ] at this ⊢;omega,fun z b r he=>L.up z b r (hup1 z b r he),?_,fun S hR hS=>?_⟩
  ·obtain ⟨l,h1,h2⟩:=L.up s (some c) n.read.length ((Ki hg Bm).2 (.inr ⟨rfl,rfl,rfl⟩))
   exact .read h1 h2 L.pa
  ·obtain ⟨S1,hS1⟩:∃ S1:Sem,S1=fun z u=>if z=n.read.length then ∃ v,u=d::w++v∧S to v else S z u:=⟨_,rfl⟩
   have e0:∀ z,z<n.read.length→S1 z=S z:=fun z hz=>by rw [hS1];funext u;exact if_neg Bm
   have e1:∀ u,S1 n.read.length u↔∃ v,u=d::w++v∧S to v:=fun u=>by rw [hS1];simp only [if_true]
   have hR1:qR (Iv (Eb n) s c n.read.length) S1:=fun z b r he=>by
    rw [hrl]
    rcases (Ki hg Bm).1 he with he | ⟨rfl,rfl,rfl⟩
    ·obtain ⟨h1,h2,h3⟩:=hR z b r ((Pu h).1 he)
     exact ⟨by omega,by omega,fun u hu=>by rw [e0 _ h1] at hu;rw [e0 _ h2];exact h3 u hu⟩
    ·refine ⟨by omega,by omega,fun u hu=>?_⟩
     obtain ⟨v,rfl,hv⟩:=(e1 u).1 hu
     rw [e0 _ hs]
     exact hS v hv
   obtain ⟨S2,h4,h5⟩:=L.rt S1 hR1 fun u hu=>(e1 _).2 ⟨u,rfl,by rw [e0 _ hto] at hu;exact hu⟩
   exact ⟨S2,fun z hz=>by rw [h4 z Bm,e0 z hz],h5⟩
end Cn7
end Go.Proofs.YtmohebpaonkaeaaGreatDoor
namespace Go.Proofs.YtmohebpaonkaeaaGreatDoor
open Go Go.Ex
namespace Cn7
def Out (t:Tr) (d:Tb) (k:QQ) (w:List UInt8):Prop:=∃ x,Bo t k.1 x=some w∧lb d k.2 x=true
structure Ext (a b:Kc):Prop where
 k:∃ m,b.keys=a.keys++m
 t:∃ m,b.ats=a.ats++m
 e:∀ z c r,Edge a.net z c r→Edge b.net z c r
 l:a.net.read.length≤b.net.read.length
theorem Ext.refl (a:Kc):Ext a a:=⟨⟨[],by simp⟩,⟨[],by simp⟩,fun _ _ _ h=>h,AaR _⟩
theorem Ext.trans {a b c:Kc} (h:Ext a b) (h2:Ext b c):Ext a c:=by
 obtain ⟨m,hm⟩:=h.k;obtain ⟨m2,hm2⟩:=h2.k
 obtain ⟨n,hn⟩:=h.t;obtain ⟨n2,hn2⟩:=h2.t
 exact ⟨⟨m++m2,by rw [hm2,hm,AaI]⟩,⟨n++n2,by rw [hn2,hn,AaI]⟩,fun z c r he=>h2.e z c r (h.e z c r he),Aai h.l h2.l⟩
theorem Ext.key {a b:Kc} (h:Ext a b) {i:Nat} {k:QQ} (hk:a.keys[i]?=some k):b.keys[i]?=some k:=by
 obtain ⟨m,hm⟩:=h.k
 have hi:i<a.keys.length:=by
  rcases AaM i a.keys.length with h4 | h4
  ·exact h4
  ·rw [AaL h4] at hk;cases hk
 rw [hm,AaN hi];exact hk
theorem Ext.kl {a b:Kc} (h:Ext a b):a.keys.length≤b.keys.length:=by
 obtain ⟨m,hm⟩:=h.k
 rw [hm,AaB];omega
theorem Ext.at_ {a b:Kc} (h:Ext a b) {i:Nat} (hi:i<a.ats.length):b.ats.getD i 0=a.ats.getD i 0:=by
 obtain ⟨m,hm⟩:=h.t
 rw [hm];exact Mc hi
structure VI (t:Tr) (d:Cy) (st:Kc) (S:Sem):Prop where
 ok:NtOk st.net
 al:st.ats.length=st.keys.length
 nd:st.keys.Nodup
 kok:∀ k∈st.keys,k.1<t.moves.length∧k.2<d.next.length
 at_:∀ i,i<st.keys.length→0<st.ats.getD i 0∧st.ats.getD i 0<st.net.read.length
 n1:1≤st.net.read.length
 s0:∀ w,S 0 w↔w=[]
 sk:∀ i k,st.keys[i]?=some k→∀ w,S (st.ats.getD i 0) w↔Out t (Av d) k w
 rt:qR st.net S
def yG (t:Tr) (d:Tb) (st:Kc) (k:QQ) (at_:Nat):Prop :=
 (∀ y:UInt8,0≤(Dv t k.1 y).to→∃ j,st.keys[j]?=some ((Dv t k.1 y).to.toNat,step d k.2 y.toNat)∧Gz st.net at_ (Gt (Dv t k.1 y).out y) (st.ats.getD j 0)) ∧
 (t.final.getD k.1 false=true∧d.acc.getD k.2 false=true→Gz st.net at_ (t.ends.getD k.1 []) 0)
theorem yH {a b:Kc} (h:Ext a b) (hal:a.ats.length=a.keys.length) {j:Nat} {k:QQ} {z:Nat} {w:List UInt8} (hk:a.keys[j]?=some k) (hp:Gz a.net z w (a.ats.getD j 0)):b.keys[j]?=some k∧Gz b.net z w (b.ats.getD j 0):=by
 have hj:j<a.ats.length:=by
  rw [hal]
  rcases AaM j a.keys.length with h4 | h4
  ·exact h4
  ·rw [AaL h4] at hk;cases hk
 exact ⟨h.key hk,by rw [h.at_ hj];exact hp.mono h.e⟩
theorem yG.mono {t:Tr} {d:Tb} {a b:Kc} (h:Ext a b) (hal:a.ats.length=a.keys.length) {k:QQ} {z:Nat} (hd:yG t d a k z):yG t d b k z :=
 ⟨fun y hy=>by
  obtain ⟨j,h1,h2⟩:=hd.1 y hy
  obtain ⟨h3,h4⟩:=yH h hal h1 h2
  exact ⟨j,h3,h4⟩,fun hf=>(hd.2 hf).mono h.e⟩
def Ht (t:Tr) (d:Tb) (st:Kc) (i0:Nat):Prop:=∀ i k,i0≤i→st.keys[i]?=some k→yG t d st k (st.ats.getD i 0)
theorem Ht.mono {t:Tr} {d:Tb} {a b:Kc} (h:Ext a b) (hal:a.ats.length=a.keys.length) {i0:Nat} (hd:Ht t d a i0) (hn:Ht t d b a.keys.length):Ht t d b i0:=fun i k hi hk=>by
 rcases AaM i a.keys.length with h1 | h1
 ·obtain ⟨m,hm⟩:=h.k
  have hka:a.keys[i]?=some k:=by rw [hm,AaN h1] at hk;exact hk
  rw [h.at_ (by rw [hal];exact h1)]
  exact (hd i k hi hka).mono h hal
 ·exact hn i k h1 hk
structure VR (t:Tr) (d:Cy) (a:Kc) (S:Sem) (b:Kc) (S2:Sem):Prop where
 vi:VI t d b S2
 ex:Ext a b
 ag:∀ z,z<a.net.read.length→S2 z=S z
def qT (t:Tr) (d:Cy) (B:List Nat) (f:Nat):Prop:=∀ (st:Kc) (S:Sem) (p q:Nat),VI t d st S→p<t.moves.length→q<d.next.length→t.moves.length*d.next.length<f+st.keys.length →
 ∃ st2 at2 S2 j,Ii t (Av d) B f st p q=some (st2,at2)∧VR t d st S st2 S2∧Ht t (Av d) st2 st.keys.length∧st2.keys[j]?=some (p,q)∧st2.ats.getD j 0=at2∧st2.net.read.length+2057*st.keys.length≤st.net.read.length+2057*st2.keys.length
theorem qU {t:Tr} {d:Cy} {st:Kc} {S:Sem} (h:VI t d st S) {s to:Nat} {w:List UInt8} (hs:s<st.net.read.length) (hto:to<st.net.read.length) (hS:∀ u,S to u→S s (w++u)) :
  ∃ S2,VR t d st S { st with net:=El st.net s w to } S2∧Gz (El st.net s w to) s w to∧(El st.net s w to).read.length≤st.net.read.length+w.length:=by
 have L:=qS w st.net s to h.ok hs hto
 obtain ⟨S2,h1,h2⟩:=L.rt S h.rt hS
 refine ⟨S2,⟨⟨L.ok,h.al,h.nd,h.kok,fun i hi=>⟨(h.at_ i hi).1,AcD (h.at_ i hi).2 L.ln⟩,Aai h.n1 L.ln,fun w=>?_,fun i k hk w=>?_,h2⟩,⟨⟨[],by simp⟩,⟨[],by simp⟩,L.up,L.ln⟩,h1⟩,L.pa,L.ub⟩
 ·rw [h1 0 (AcD Nat.zero_lt_one h.n1)];exact h.s0 w
 ·have hi:i<st.keys.length:=by
   rcases AaM i st.keys.length with h4 | h4
   ·exact h4
   ·rw [AaL h4] at hk;cases hk
  show S2 (st.ats.getD i 0) w↔_
  rw [h1 _ (h.at_ i hi).2];exact h.sk i k hk w
theorem VR.trans {t:Tr} {d:Cy} {a b c:Kc} {S S2 S3:Sem} (h:VR t d a S b S2) (h2:VR t d b S2 c S3):VR t d a S c S3 :=
 ⟨h2.vi,h.ex.trans h2.ex,fun z hz=>by rw [h2.ag z (AcD hz h.ex.l),h.ag z hz]⟩
theorem aU {t:Tr} {d:Cy} {B:List Nat} (ht:TrOk t) (hd:DOk d) {f p q i0 at0:Nat} (hf:qT t d B f) (hp:p<t.moves.length) (hq:q<d.next.length):∀ (bs:List Nat) (st:Kc) (S:Sem),(∀ b∈bs,b<256)→VI t d st S →
  st.keys[i0]?=some (p,q)→st.ats.getD i0 0=at0→t.moves.length*d.next.length<f+st.keys.length →
  ∃ st2 S2,bs.foldl (Me t (Av d) (Ii t (Av d) B f) p q at0) (some st)=some st2∧VR t d st S st2 S2∧Ht t (Av d) st2 st.keys.length ∧
   (∀ b∈bs,0≤(Dv t p (UInt8.ofNat b)).to→∃ j,st2.keys[j]?=some ((Dv t p (UInt8.ofNat b)).to.toNat,step (Av d) q b)∧Gz st2.net at0 (Gt (Dv t p (UInt8.ofNat b)).out (UInt8.ofNat b)) (st2.ats.getD j 0)) ∧
   st2.net.read.length+2057*st.keys.length≤st.net.read.length+2057*st2.keys.length+8*bs.length
 | [],st,S,_,h,_,_,_=>⟨st,S,rfl,⟨h,Ext.refl st,fun _ _=>rfl⟩,(fun i k hi hk=>by rw [AaL hi] at hk;cases hk),(fun b hb=>by cases hb),by simp⟩
 | b::bs,st,S,hb,h,h0,hat,hfu=>by
  have hb0:=hb b AaK
  have hm:=ht.mv hp (UInt8.ofNat b)
  rw [Aao]
  by_cases hneg:(Dv t p (UInt8.ofNat b)).to<0
  ·have e:Me t (Av d) (Ii t (Av d) B f) p q at0 (some st) b=some st:=by
    show (if (Dv t p (UInt8.ofNat b)).to<0 then some st else _)=_
    rw [if_pos hneg]
   rw [e]
   obtain ⟨st2,S2,e2,h1,h2,h3,h4⟩:=aU ht hd hf hp hq bs st S (fun c hc=>hb c (AaG _ hc)) h h0 hat hfu
   refine ⟨st2,S2,e2,h1,h2,fun c hc hc0=>?_,by simp only [AaZ];omega⟩
   rcases AaV.1 hc with rfl | hc
   ·omega
   ·exact h3 c hc hc0
  ·obtain ⟨sa,to,Sa,j,ea,ha1,ha2,ha3,ha4,ha5⟩:=hf st S (Dv t p (UInt8.ofNat b)).to.toNat (step (Av d) q b) h Bm (step_lt (tab_ok hd) hq hb0) hfu
   have e:Me t (Av d) (Ii t (Av d) B f) p q at0 (some st) b=some { sa with net:=El sa.net at0 (Gt (Dv t p (UInt8.ofNat b)).out (UInt8.ofNat b)) to }:=by
    show (if (Dv t p (UInt8.ofNat b)).to<0 then some st else match Ii t (Av d) B f st (Dv t p (UInt8.ofNat b)).to.toNat (step (Av d) q b) with
     | none=>none
     | some (s2,to)=>some { s2 with net:=El s2.net at0 (Gt (Dv t p (UInt8.ofNat b)).out (UInt8.ofNat b)) to })=_
    rw [if_neg hneg,ea]
   rw [e]
   have hi0:i0<st.keys.length:=by
    rcases AaM i0 st.keys.length with h4 | h4
    ·exact h4
    ·rw [AaL h4] at h0;cases h0
   have h0a:=ha1.ex.key h0
   have hata:sa.ats.getD i0 0=at0:=by rw [ha1.ex.at_ (by rw [h.al];exact hi0)];exact hat
   have hj:j<sa.keys.length:=by
    rcases AaM j sa.keys.length with h4 | h4
    ·exact h4
    ·rw [AaL h4] at ha3;cases ha3
   have hi0a:i0<sa.keys.length:=AcD hi0 ha1.ex.kl
   have hsa:=(ha1.vi.at_ i0 hi0a).2
   have hto:=(ha1.vi.at_ j hj).2
   rw [hata] at hsa
   rw [ha4] at hto
   obtain ⟨Sb,hb1,hb2,hb3⟩:=qU ha1.vi (s:=at0) (to:=to) (w:=Gt (Dv t p (UInt8.ofNat b)).out (UInt8.ofNat b)) hsa hto fun u hu=>by
    have h5:=(ha1.vi.sk j _ ha3 u).1 (by rw [ha4];exact hu)
    have h6:=ha1.vi.sk i0 _ h0a (Gt (Dv t p (UInt8.ofNat b)).out (UInt8.ofNat b)++u)
    rw [hata] at h6
    refine h6.2 ?_
    obtain ⟨x,hx1,hx2⟩:=h5
    refine ⟨UInt8.ofNat b::x,?_,?_⟩
    ·show Bo t p (UInt8.ofNat b::x)=_
     rw [Bo,if_neg hneg]
     have hx1':Bo t (Dv t p (UInt8.ofNat b)).to.toNat x=some u:=hx1
     rw [hx1'];rfl
    ·show lb (Av d) q (UInt8.ofNat b::x)=true
     have eb:(UInt8.ofNat b).toNat=b:=by rw [Aav];omega
     rw [lb,eb];exact hx2
   obtain ⟨st2,S2,e2,h1,h2,h3,h4⟩:=aU ht hd hf hp hq bs _ Sb (fun c hc=>hb c (AaG _ hc)) hb1.vi h0a hata (by have:=ha1.ex.kl;show _<f+sa.keys.length;omega)
   have hall:=ha1.trans (hb1.trans h1)
   refine ⟨st2,S2,e2,hall,?_,fun c hc hc0=>?_,?_⟩
   ·refine Ht.mono (hb1.ex.trans h1.ex) ha1.vi.al ha2 ?_
    exact h2
   ·rcases AaV.1 hc with rfl | hc
    ·have hpa:Gz ({ sa with net:=El sa.net at0 (Gt (Dv t p (UInt8.ofNat c)).out (UInt8.ofNat c)) to }:Kc).net at0 (Gt (Dv t p (UInt8.ofNat c)).out (UInt8.ofNat c)) (({ sa with net:=El sa.net at0 (Gt (Dv t p (UInt8.ofNat c)).out (UInt8.ofNat c)) to }:Kc).ats.getD j 0):=by
      show Gz _ _ _ (sa.ats.getD j 0)
      rw [ha4];exact hb2
     obtain ⟨h5,h6⟩:=yH h1.ex hb1.vi.al (j:=j) ha3 hpa
     exact ⟨j,h5,h6⟩
    ·exact h3 c hc hc0
   ·have hwl:(Gt (Dv t p (UInt8.ofNat b)).out (UInt8.ofNat b)).length≤8:=by unfold Gt;rw [AaC];exact hm.2.2
    have h4':st2.net.read.length+2057*sa.keys.length≤(El sa.net at0 (Gt (Dv t p (UInt8.ofNat b)).out (UInt8.ofNat b)) to).read.length+2057*st2.keys.length+8*bs.length:=h4
    simp only [AaZ]
    omega
theorem vis_ok {t:Tr} {d:Cy} {B:List Nat} (hBm:∀ b,b∈B↔b<256) (hBl:B.length=256) (ht:TrOk t) (hd:DOk d) (f:Nat):qT t d B f:=by
 induction f with
 | zero =>
  intro st S p q h hp hq hfu
  exfalso
  have h2:=len_le (l:=st.keys.map fun s=>s.1*d.next.length+s.2) (n:=t.moves.length*d.next.length) (nodup_map h.nd fun x hx y hy e=>by
   obtain ⟨a1,a2⟩:=h.kok x hx
   obtain ⟨b1,b2⟩:=h.kok y hy
   have f1:(x.1*d.next.length+x.2) / d.next.length=x.1:=by rw [AcB,AbZ Bm,AbS Bm,Abn]
   have f2:(y.1*d.next.length+y.2) / d.next.length=y.1:=by rw [AcB,AbZ Bm,AbS Bm,Abn]
   have e1:x.1=y.1:=by rw [← f1,← f2,e]
   rw [e1] at e
   exact Prod.ext e1 Bm) (fun z hz=>by
   obtain ⟨s,hs,rfl⟩:=Aaf.1 hz
   obtain ⟨a1,a2⟩:=h.kok s hs
   have h1:(s.1+1)*d.next.length≤t.moves.length*d.next.length:=AbL _ a1
   rw [AcN,AcE] at h1
   omega)
  rw [AaC] at h2
  omega
 | succ f ihf =>
  intro st S p q h hp hq hfu
  rw [Ii]
  by_cases hin:Bc (p,q) st.keys<st.keys.length
  ·rw [if_pos hin]
   refine ⟨st,_,S,Bc (p,q) st.keys,rfl,⟨h,Ext.refl st,fun _ _=>rfl⟩,(fun i k hi hk=>by rw [AaL hi] at hk;cases hk),?_,rfl,AaR _⟩
   rw [AaA hin,Ec hin]
  ·rw [if_neg hin]
   have hno:(p,q)∉st.keys:=fun hm=>hin (Cb.2 hm)
   obtain ⟨a0,ha0⟩:∃ a,a=st.net.read.length:=⟨_,rfl⟩
   rw [← ha0]
   obtain ⟨s1,hs1⟩:∃ s:Kc,s=⟨Eb st.net,st.keys++[(p,q)],st.ats++[a0]⟩:=⟨_,rfl⟩
   rw [← hs1]
   have hgl:s1.net.read.length=a0+1:=by rw [hs1];show (st.net.read++[[]]).length=_;rw [AaB,ha0];rfl
   have hkl:s1.keys.length=st.keys.length+1:=by rw [hs1];show (st.keys++[(p,q)]).length=_;rw [AaB];rfl
   have hx1:Ext st s1:=by rw [hs1];exact ⟨⟨_,rfl⟩,⟨_,rfl⟩,fun z c r he=>(Pu h.ok).2 he,by show _≤(st.net.read++[[]]).length;rw [AaB];omega⟩
   have h0k:s1.keys[st.keys.length]?=some (p,q):=by rw [hs1];show (st.keys++[(p,q)])[st.keys.length]?=_;rw [AaW (AaR _),Aaw];rfl
   have h0a:s1.ats.getD st.keys.length 0=a0:=by rw [hs1];show (st.ats++[a0]).getD st.keys.length 0=_;rw [AaH,AaW (by rw [h.al];exact AaR _),h.al,Aaw];rfl
   obtain ⟨S1,hS1⟩:∃ S1:Sem,S1=fun z u=>if z=a0 then Out t (Av d) (p,q) u else S z u:=⟨_,rfl⟩
   have e0:∀ z,z<a0→S1 z=S z:=fun z hz=>by rw [hS1];funext u;exact if_neg Bm
   have e1:∀ u,S1 a0 u↔Out t (Av d) (p,q) u:=fun u=>by rw [hS1];simp only [if_true]
   have hn1:=h.n1
   have hv1:VI t d s1 S1:=by
    refine ⟨by rw [hs1];exact qP h.ok,?_,?_,fun k hk=>?_,fun i hi=>?_,by omega,fun w=>by rw [e0 0 Bm];exact h.s0 w,fun i k hk w=>?_,fun z c r he=>?_⟩
    ·rw [hkl,hs1];show (st.ats++[a0]).length=_;rw [AaB,h.al];rfl
    ·rw [hs1];show (st.keys++[(p,q)]).Nodup
     rw [AbQ]
     exact ⟨h.nd,by simp,fun a ha c hc e=>hno (by rw [AaE.1 hc] at e;exact e▸ha)⟩
    ·rw [hs1] at hk
     rcases AaS.1 hk with hk | hk
     ·exact h.kok k hk
     ·rw [AaE.1 hk];exact ⟨hp,hq⟩
    ·rcases AaM i st.keys.length with h4 | h4
     ·rw [hx1.at_ (by rw [h.al];exact h4)]
      have:=h.at_ i h4
      omega
     ·obtain rfl:i=st.keys.length:=by omega
      rw [h0a];omega
    ·rcases AaM i st.keys.length with h4 | h4
     ·have hk':st.keys[i]?=some k:=by rw [hs1] at hk;rw [AaN h4] at hk;exact hk
      rw [hx1.at_ (by rw [h.al];exact h4),e0 _ (by have:=(h.at_ i h4).2;omega)]
      exact h.sk i k hk' w
     ·have hi:i=st.keys.length:=by
       rcases AaM i s1.keys.length with h5 | h5
       ·omega
       ·rw [AaL h5] at hk;cases hk
      subst hi
      rw [h0k] at hk
      injection hk with hk
      rw [h0a,← hk];exact e1 w
    ·have he':Edge st.net z c r:=by rw [hs1] at he;exact (Pu h.ok).1 he
     obtain ⟨h1,h2,h3⟩:=h.rt z c r he'
     exact ⟨by omega,by omega,fun u hu=>by rw [e0 _ Bm] at hu;rw [e0 _ Bm];exact h3 u hu⟩
   obtain ⟨s2,S2,ef,hr2,hd2,hb2,hsz⟩:=aU ht hd ihf hp hq B s1 S1 (fun b hb=>(hBm b).1 hb) hv1 h0k h0a Bm
   rw [ef]
   dsimp only
   have hx2:=hx1.trans hr2.ex
   have hi1:st.keys.length<s1.keys.length:=by omega
   have h0k2:=hr2.ex.key h0k
   have h0a2:s2.ats.getD st.keys.length 0=a0:=by rw [hr2.ex.at_ (by rw [hv1.al];exact hi1)];exact h0a
   have hag:∀ z,z<st.net.read.length→S2 z=S z:=fun z hz=>by rw [hr2.ag z Bm,e0 z Bm]
   have hy:∀ y:UInt8,0≤(Dv t p y).to→∃ j,s2.keys[j]?=some ((Dv t p y).to.toNat,step (Av d) q y.toNat)∧Gz s2.net a0 (Gt (Dv t p y).out y) (s2.ats.getD j 0):=fun y hy0=>by
    have:=hb2 y.toNat ((hBm _).2 y.toNat_lt)
    rw [o8] at this
    exact this hy0
   rw [hBl] at hsz
   have ha0l:a0<s2.net.read.length:=by have:=hr2.ex.l;omega
   by_cases hfin:t.final.getD p false=true∧(Av d).acc.getD q false=true
   ·rw [if_pos hfin]
    obtain ⟨S3,hr3,hp3,hl3⟩:=qU hr2.vi (s:=a0) (to:=0) (w:=t.ends.getD p []) ha0l Bm fun u hu=>by
     rw [(hr2.vi.s0 u).1 hu,AaX]
     have h6:=hr2.vi.sk _ _ h0k2 (t.ends.getD p [])
     rw [h0a2] at h6
     exact h6.2 ⟨[],by show Bo t p []=_;rw [Bo,if_pos hfin.1],hfin.2⟩
    refine ⟨_,a0,S3,st.keys.length,rfl,⟨hr3.vi,hx2.trans hr3.ex,fun z hz=>by rw [hr3.ag z Bm,hag z hz]⟩,?_,h0k2,h0a2,?_⟩
    ·have hall:Ht t (Av d) { s2 with net:=El s2.net a0 (t.ends.getD p []) 0 } s1.keys.length:=by
      refine Ht.mono hr3.ex hr2.vi.al hd2 ?_
      intro i k hi hk
      rw [AaL hi] at hk;cases hk
     intro i k hi hk
     rcases AaM i s1.keys.length with h4 | h4
     ·obtain rfl:i=st.keys.length:=by omega
      have hk':s2.keys[st.keys.length]?=some k:=hk
      rw [h0k2] at hk'
      injection hk' with hk'
      subst hk'
      show yG t (Av d) _ (p,q) (s2.ats.getD st.keys.length 0)
      rw [h0a2]
      exact ⟨fun y hy0=>by
       obtain ⟨j,h5,h6⟩:=hy y hy0
       obtain ⟨h7,h8⟩:=yH hr3.ex hr2.vi.al h5 h6
       exact ⟨j,h7,h8⟩,fun _=>hp3⟩
     ·exact hall i k h4 hk
    ·have hel:=(ht.en p hp).1
     show (El s2.net a0 (t.ends.getD p []) 0).read.length+2057*st.keys.length≤a0+2057*s2.keys.length
     omega
   ·rw [if_neg hfin]
    refine ⟨s2,a0,S2,st.keys.length,rfl,⟨hr2.vi,hx2,hag⟩,fun i k hi hk=>?_,h0k2,h0a2,by omega⟩
    rcases AaM i s1.keys.length with h4 | h4
    ·obtain rfl:i=st.keys.length:=by omega
     rw [h0k2] at hk
     injection hk with hk
     subst hk
     rw [h0a2]
     exact ⟨hy,fun h=>absurd h hfin⟩
    ·exact hd2 i k h4 hk
theorem out_ok {t:Tr} {d:Cy} (ht:TrOk t) (hd:DOk d) (h64:d.next.length≤64):∃ n at_,jP t (Av d)=some (n,at_)∧NtOk n∧n.read.length≤8500000∧at_<n.read.length∧(∀ s b to,Edge n s b to→to<n.read.length∧s<n.read.length)∧∀ w,Gz n at_ w 0↔Out t (Av d) (0,0) w:=by
 have hmul:t.moves.length*d.next.length≤64*64:=Abg ht.n2 h64
 have hok0:NtOk (Eb ⟨[],[]⟩):=⟨rfl,fun m hm=>by rw [AaE.1 hm];exact Aaz⟩
 have he0:∀ z c r,¬ Edge (Eb ⟨[],[]⟩) z c r:=fun z c r he=>by
  cases c with
  | none =>
   have he':r∈([[]]:List (List Nat)).getD z []:=he
   cases z with
   | zero=>cases he'
   | succ z=>cases he'
  | some c =>
   obtain ⟨l,he',_⟩:∃ l,(c,l)∈([[]]:List (List (UInt8×List Nat))).getD z []∧r∈l:=he
   cases z with
   | zero=>cases he'
   | succ z=>cases he'
 have h0:VI t d ⟨Eb ⟨[],[]⟩,[],[]⟩ (fun _ u=>u=[]) :=
  ⟨hok0,rfl,Aaz,(fun k hk=>by cases hk),(fun i hi=>by simp at hi),AaR _,fun w=>Iff.rfl,(fun i k hk=>by cases hk),fun z c r he=>absurd he (he0 z c r)⟩
 obtain ⟨st,at_,S,j,e,hr,hdn,hj,hat,hsz⟩:=vis_ok (fun _=>Aae) AaO ht hd 4097 _ _ 0 0 h0 ht.n1 hd.n1 (by show _<4097+0;omega)
 have hj':j<st.keys.length:=by
  rcases AaM j st.keys.length with h4 | h4
  ·exact h4
  ·rw [AaL h4] at hj;cases hj
 have hatl:=(hr.vi.at_ j hj').2
 rw [hat] at hatl
 have hkl:st.keys.length≤4096:=by
  have h2:=len_le (l:=st.keys.map fun s=>s.1*d.next.length+s.2) (n:=t.moves.length*d.next.length) (nodup_map hr.vi.nd fun x hx y hy e=>by
   obtain ⟨a1,a2⟩:=hr.vi.kok x hx
   obtain ⟨b1,b2⟩:=hr.vi.kok y hy
   have f1:(x.1*d.next.length+x.2) / d.next.length=x.1:=by rw [AcB,AbZ Bm,AbS Bm,Abn]
   have f2:(y.1*d.next.length+y.2) / d.next.length=y.1:=by rw [AcB,AbZ Bm,AbS Bm,Abn]
   have e1:x.1=y.1:=by rw [← f1,← f2,e]
   rw [e1] at e
   exact Prod.ext e1 Bm) (fun z hz=>by
   obtain ⟨s,hs,rfl⟩:=Aaf.1 hz
   obtain ⟨a1,a2⟩:=hr.vi.kok s hs
   have h1:(s.1+1)*d.next.length≤t.moves.length*d.next.length:=AbL _ a1
   rw [AcN,AcE] at h1
   omega)
  rw [AaC] at h2
  omega
 have hsz':st.net.read.length≤1+2057*st.keys.length:=hsz
 refine ⟨st.net,at_,by unfold jP;rw [e],hr.vi.ok,by omega,hatl,fun s b to he=>⟨(hr.vi.rt s b to he).1,(hr.vi.rt s b to he).2.1⟩,fun w=>⟨fun hp=>?_,?_⟩⟩
 ·have hs:S at_ w:=by
   have key:∀ (a c:Nat) (u:List UInt8),Gz st.net a u c→∀ v,S c v→S a (u++v):=by
    intro a c u hp
    induction hp with
    | nil s=>exact fun v hv=>hv
    | free h3 _ ih=>exact fun v hv=>(hr.vi.rt _ none _ h3).2.2 _ (ih v hv)
    | read h3 h4 _ ih=>exact fun v hv=>(hr.vi.rt _ (some _) _ ⟨_,h3,h4⟩).2.2 _ (ih v hv)
   have:=key _ _ _ hp [] ((hr.vi.s0 []).2 rfl)
   rwa [AaX] at this
  have h2:=hr.vi.sk j _ hj w
  rw [hat] at h2
  exact h2.1 hs
 ·have key:∀ (x:List UInt8) (i:Nat) (k:QQ) (w:List UInt8),st.keys[i]?=some k→Bo t k.1 x=some w→lb (Av d) k.2 x=true→Gz st.net (st.ats.getD i 0) w 0:=by
   intro x
   induction x with
   | nil =>
    intro i k w hk h1 h2
    rw [Bo] at h1
    split at h1
    ·rename_i hf
     injection h1 with h1
     rw [← h1]
     exact (hdn i k (Aas _) hk).2 ⟨hf,h2⟩
    ·cases h1
   | cons y x ih =>
    intro i k w hk h1 h2
    rw [Bo] at h1
    split at h1
    ·cases h1
    ·rename_i hneg
     rw [lb] at h2
     obtain ⟨j2,h3,h4⟩:=(hdn i k (Aas _) hk).1 y Bm
     cases hx:Bo t (Dv t k.1 y).to.toNat x with
     | none=>rw [hx] at h1;cases h1
     | some o =>
      rw [hx] at h1
      injection h1 with h1
      rw [← h1]
      exact h4.trans (ih j2 _ o h3 hx h2)
  rintro ⟨x,h1,h2⟩
  have:=key x j (0,0) w hj h1 h2
  rwa [hat] at this
end Cn7
end Go.Proofs.YtmohebpaonkaeaaGreatDoor
