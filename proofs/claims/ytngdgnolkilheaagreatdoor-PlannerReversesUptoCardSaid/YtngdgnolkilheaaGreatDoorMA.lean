/- Part 1 of the walk through the functions that the laws of package fleet call: each function's contract, without conditions but those that its statement names. -/
import Derived.TacticsIn
import Derived.OrdersIn
import Derived.OrdersHeld
import Derived.Below
import Derived.KernelRfl
import Derived.Maps.AppendAt
import Derived.Laws.Entries
import Derived.Laws.Cells
import Derived.Laws.BytesArg
import Derived.Laws.OwnMore
import Derived.Laws.BitsLemmas
import Derived.Laws.MakeOwn
import Derived.Laws.Strings
import Derived.RangeFuncLeaves
import Derived.RangeFuncRecord
import Derived.RangeFuncSeq
import Derived.WideMake
import Derived.MapKept
import Derived.Laws.Bits64
import Derived.Lib.SliceRun
import Derived.Lib.ConvBytes
import Derived.Carry
import Derived.ChangeSlices
import Derived.Deep.Slices
import Derived.Lib.SmallJoins
import Derived.ProofKit
import Derived.OpenShut
import Derived.Deep.DeepHandedRow
import Derived.Lib.LaidTab
import Derived.Test.YtngdgnolkilheaaGreatDoorRows
import Derived.RecoverIn
import Derived.Laws.StructEq
import Derived.Lib.AppendStr
import Derived.Lib.UnsafeStr
import Derived.Lib.Builder
import Derived.Laws.Externs
import Derived.Maps.RangeRun
import Derived.Test.YtngdgnolkilheaaGreatDoorProg
set_option maxHeartbeats 4000000
set_option maxRecDepth 10000
set_option linter.unusedVariables false
set_option linter.unusedSimpArgs false
set_option linter.unusedSectionVars false
namespace Go.Ex
theorem Z0 {p:Prop} (h:p:=by first|exact Bs aS|exact Bs List.length_replicate|exact Bs (Pg aS aS)|exact (List.length_map _).trans aS|exact Bs (Ew aS aS)|exact Bs (Ew (Bo hpl (Bh _)) aS)|exact Bs (Bo hpl (Bh _))|exact (List.length_map _).trans List.length_replicate|exact (List.length_map _).trans (Bh _)):p:=h
theorem Z1 {p:Prop} (h:p:=by first|exact (List.length_map _).trans hxl|exact (List.length_map _).trans (Iy _ _)|exact (List.length_map _).trans (Bh _)|exact (List.length_map _).trans List.length_replicate|exact (List.length_map _).trans (Bo (Bo hxl (Ey _)) (Bh _))):p:=h
theorem Z2 {p:Prop} (h:p:=by first|exact Bp hcx|exact Bp hcy|exact Ls rfl oM|exact Ls (Qr _).cl oM|exact (List.length_map _).trans List.length_replicate|exact (List.length_map _).trans (Qr _).cl):p:=h
theorem Z3 {p:Prop} (h:p:=by first|rfl|exact Bp hX3|exact Bp hX4|exact Bp hJl|exact Bp List.length_replicate|exact (List.length_map _).trans hJl|exact (List.length_map _).trans List.length_replicate):p:=h
theorem Z4 {p:Prop} (h:p:=by first|rfl|exact Bp hX256|exact Bp hJl|exact Bp List.length_replicate|exact (List.length_map _).trans hJl|exact (List.length_map _).trans List.length_replicate):p:=h
theorem Z5 {p:Prop} (h:p:=by first|exact (List.length_map _).trans (Iy _ _)|exact (List.length_map _).trans List.length_replicate|(rw [List.length_map];simp)|rfl):p:=h
theorem Z6 {p:Prop} (h:p:=by first|exact Bs aS|exact Bs List.length_replicate|exact Bs (Pg aS aS)|exact (List.length_map _).trans aS):p:=h
theorem Z7 {p:Prop} (h:p:=by first|exact Bp (Lr _ _)|exact Bp List.length_replicate|(rw [List.length_map];first|assumption|rfl)):p:=h
theorem Z8 {p:Prop} (h:p:=by intro z hz;rw [List.mem_singleton.1 hz];have h:=of_decide_eq_true (show decide (0≤x∧x≤11)=true from hx);omega):p:=h
theorem Z9 {p:Prop} (h:p:=by first|exact Bp (Ul oM)|exact Bp List.length_replicate|exact Bp List.length_range):p:=h
theorem Z10 {p:Prop} (h:p:=by first|exact Bp hcl|exact Bp List.length_replicate|exact (List.length_map _).trans hcl):p:=h
theorem Z11 {p:Prop} (h:p:=by first|(rw [List.length_map];first|assumption|exact List.length_replicate|exact Oi hv hw oM)):p:=h
theorem Z12 {p:Prop} (h:p:=by intro c h;simp only [List.mem_cons,List.not_mem_nil,or_false] at h;rcases h with rfl | rfl<;>rfl):p:=h
theorem Z13 {p:Prop} (h:p:=by first|exact (List.length_map _).trans List.length_replicate|(rw [List.length_map];assumption)):p:=h
theorem Z14 {p:Prop} (h:p:=by rw [List.length_map];exact (aG (hs2ok.c4 _ (List.getElem_mem hixl)).1 (Me _)).1):p:=h
theorem bQ {p:Prop} (h:p:=by simp only [List.all_cons,List.all_nil,hs.f7.rowOne 1 rfl,hs.f7.rowOne 2 rfl];rfl):p:=h
theorem Z16 {p:Prop} (h:p:=by rw [List.range_succ,List.map_append,List.map_append,List.map_singleton,hsb];rfl):p:=h
theorem Z17 {p:Prop} (h:p:=by first|rfl|(rw [List.length_map];first|assumption|exact Mh hs4 hc4|rfl)):p:=h
theorem Z18 {p:Prop} (h:p:=by rw [List.length_map];exact (hs2ok.c4 _ (List.getElem_mem _)).1):p:=h
theorem Z19 {p:Prop} (h:p:=by rw [List.length_map,show [c0,c1,c2,c3].length=4 from rfl]):p:=h
theorem Z20 {p:Prop} (h:p:=by rw [List.length_map,show [p0,p1,p2,p3].length=4 from rfl]):p:=h
theorem Z21 {p:Prop} (h:p:=by rw [List.length_map,show [q0,q1,q2,q3].length=4 from rfl]):p:=h
theorem Z22 {p:Prop} (h:p:=by rw [← Up hv hw oM,List.map_set,← hq12,← hq16];rfl):p:=h
theorem Z23 {p:Prop} (h:p:=by have:k=b:=hk;simp [Res.foot,Value.ownBlock,this]):p:=h
theorem Z24 {p:Prop} (h:p:=by unfold aB;exact (decide_eq_true oM).symm):p:=h
theorem Z25 {p:Prop} (h:p:=by rw [← dG hs2ok.c4 hixl,hcs];simp [kS]):p:=h
theorem Z26 {p:Prop} (h:p:=by intro z hz;rw [List.mem_singleton.1 hz];omega):p:=h
theorem Z27 {p:Prop} (h:p:=by rw [List.length_map,Oi hv hw oM];omega):p:=h
theorem Z28 {p:Prop} (h:p:=by simp [aT,gH,List.map_set,Bb];try rfl):p:=h
theorem Z29 {p:Prop} (h:p:=by rw [herr];exact List.getElem_mem _):p:=h
theorem Z30 {p:Prop} (h:p:=by rw [hble];exact List.getElem_mem _):p:=h
theorem Z31 {p:Prop} (h:p:=by have:=fl_le (l:=l) (k:=k) oM;omega):p:=h
theorem Z32 {p:Prop} (h:p:=by rw [hse];exact List.getElem_mem _):p:=h
theorem Z33 {p:Prop} (h:p:=by rw [hxe];exact List.getElem_mem _):p:=h
theorem Z34 {p:Prop} (h:p:=by rw [List.length_map];simp;omega):p:=h
theorem Z35 {p:Prop} (h:p:=by rw [hnx.1,List.map_append];rfl):p:=h
theorem Kn {p:Prop} (h:p:=by first|omega|(simp;omega)|simp):p:=h
theorem Z37 {p:Prop} (h:p:=by rw [List.append_nil];exact hs):p:=h
theorem Z38 {p:Prop} (h:p:=by simp only [List.map_set];rfl):p:=h
theorem qU {p:Prop} (h:p:=by unfold dF;rw [if_pos oM]):p:=h
theorem Z40 {p:Prop} (h:p:=by rw [IntKind.wrap_i64];omega):p:=h
theorem kZ {p:Prop} (h:p:=by rw [List.length_map];omega):p:=h
theorem bR {p:Prop} (h:p:=by first|exact hpl|assumption):p:=h
theorem uA {p:Prop} (h:p:=by rw [List.length_map];simp):p:=h
theorem Z44 {p:Prop} (h:p:=by simp [Po];omega):p:=h
theorem Z45 {p:Prop} (h:p:=by unfold maxLen;omega):p:=h
theorem nI {p:Prop} (h:p:=by intro z hz;cases hz):p:=h
theorem Z47 {p:Prop} (h:p:=by rw [iJ];omega):p:=h
theorem Z48 {p:Prop} (h:p:=by simp at hpl2;omega):p:=h
theorem El {p:Prop} (h:p:=by dsimp only;omega):p:=h
theorem tU {p:Prop} (h:p:=by simpa using h109):p:=h
theorem bT {p:Prop} (h:p:=by simpa using h):p:=h
theorem Nj {p:Prop} (h:p:=by simp;omega):p:=h
theorem Z53 {p:Prop} (h:p:=by rw [hrec]):p:=h
theorem gK {p:Prop} (h:p:=by cases h):p:=h
theorem Dz {p:Prop} (h:p:=by omega):p:=h
theorem Dr {p:Prop} (h:p:=by simp):p:=h
end Go.Ex
namespace Go.Ex
open Go
def RF (r:Option Nat):Fence:={ fn:=fun _=>True,depth:=none,alive:=false,round:=r }
structure Env where
 d:List Deferred
 l:List (Nat×Value)
def Ge:List (Nat×Value)→Nat→Option Value
 | [],_=>none
 | (k,v)::E,t=>bif Nat.beq k t then some v else Ge E t
def ev (E:Env):Operand→Option Value
 | .tmp t=>Ge E.l t
 | .const v=>some v
 | .global g=>some (.pointer (some ⟨g,0,none⟩))
 | .func f=>some (.func (.func f) #[] #[])
def Env.put (E:Env) (d:Option Tmp) (v:Value):Env :=
 match d with
 | none=>E
 | some t=>⟨E.d,(t,v)::E.l⟩
def Ja:List (Nat×Value)→List (Nat×Value)→Prop
 | [],_=>True
 | (t,v)::L,E=>Ge E t=some v∧Ja L E
theorem gL:∀ {L E:List (Nat×Value)},Ja L E→∀ t v,Ge L t=some v→Ge E t=some v
 | [],_,_,_,_,h=>by cases h
 | (k,u)::L,E,⟨h1,h2⟩,t,v,h=>by
  unfold Ge at h
  cases hb:Nat.beq k t with
  | true =>
   rw [hb] at h
   obtain rfl:=Nat.eq_of_beq_eq_true hb
   simp at h;subst h;exact h1
  | false=>rw [hb] at h;exact gL h2 t v bT
structure Ag (N:Nat) (E:Env) (a:Act):Prop where
 size:a.tmps.size=N
 defs:a.defers=E.d
 look:∀ t v,Ge E.l t=some v→a.tmps[t]?=some v
section
variable {N:Nat} {E:Env} {a:Act}
theorem Ag.ev (h:Ag N E a) {o:Operand} {v:Value} (ho:ev E o=some v):a.eval o=v:=by
 cases o with
 | tmp t =>
  have:=h.look t v ho
  simp [Act.eval,this]
 | const u=>simpa [Ex.ev,Act.eval] using ho
 | global g=>simpa [Ex.ev,Act.eval] using ho
 | func f=>simpa [Ex.ev,Act.eval] using ho
theorem Ag.put (h:Ag N E a) (d:Option Tmp) (v:Value) (hd:∀ t,d=some t→t<N):Ag N (E.put d v) (a.put d v):=by
 cases d with
 | none=>exact h
 | some t =>
  have ht:=hd t rfl
  refine ⟨by simp [Act.put,h.size],h.defs,fun k u hk=>?_⟩
  simp only [Env.put,Ge] at hk
  simp only [Act.put]
  cases hb:Nat.beq t k with
  | true =>
   rw [hb] at hk
   obtain rfl:=Nat.eq_of_beq_eq_true hb
   simp at hk;subst hk
   rw [Array.getElem?_setIfInBounds_self_of_lt (by rw [h.size];exact ht)]
  | false =>
   rw [hb] at hk
   have hne:t≠k:=Nat.ne_of_beq_eq_false hb
   rw [Array.getElem?_setIfInBounds_ne hne]
   exact h.look k u (by simpa using hk)
theorem Ag.sub {L:List (Nat×Value)} (h:Ag N E a) (hs:Ja L E.l):Ag N ⟨E.d,L⟩ a :=
 ⟨h.size,h.defs,fun t v ht=>h.look t v (gL hs t v ht)⟩
end
structure Cx where
 P:Program
 N:Nat
 r:Option Nat
def Tp (N:Nat) (Q:Exit→Env→World→Prop):Exit→Act→World→Prop:=fun e a w=>∃ E,Ag N E a∧Q e E w
def T (x:Cx) (c:Code) (Q:Exit→Env→World→Prop) (E:Env) (w:World):Prop :=
 ∀ a,Ag x.N E a→c.wpIn (RF x.r) 0 x.P (Tp x.N Q) a w
@[reducible] def sq (K:Env→World→Prop) (Q:Exit→Env→World→Prop):Exit→Env→World→Prop
 | .normal,E,w=>K E w
 | e,E,w=>Q e E w
@[reducible] def bk (id:Nat) (Q:Exit→Env→World→Prop):Exit→Env→World→Prop
 | .exit id',E,w=>bif Nat.beq id' id then Q .normal E w else Q (.exit id') E w
 | e,E,w=>Q e E w
@[reducible] def lp (I:Nat→Env→World→Prop) (n:Nat) (Q:Exit→Env→World→Prop):Exit→Env→World→Prop
 | .normal,E,w=>∃ m,m<n∧∃ L,Ja L E.l∧I m ⟨E.d,L⟩ w
 | e,E,w=>Q e E w
section
variable {x:Cx} {Q:Exit→Env→World→Prop} {E:Env} {w:World}
theorem lA {c:Code} {Q':Exit→Env→World→Prop} (h:T x c Q E w) (hq:∀ e E w,Q e E w→Q' e E w):T x c Q' E w :=
 fun a ha=>wpIn_mono (h a ha) fun e _ _ ⟨E',h1,h2⟩=>⟨E',h1,hq e _ _ h2⟩
theorem T_seq {c d:Code} (h:T x c (sq (T x d Q) Q) E w):T x (.seq c d) Q E w:=fun a ha =>
 wpIn_seq (wpIn_mono (h a ha) fun e a' w' ⟨E',hE,hq⟩=>by
  cases e with
  | normal=>exact hq a' hE
  | _=>exact ⟨E',hE,hq⟩)
theorem Wz (h:Q .normal E w):T x .skip Q E w:=fun _ ha=>wpIn_skip ⟨E,ha,h⟩
theorem uB {id:Nat} (h:Q (.exit id) E w):T x (.exit id) Q E w:=fun _ ha=>wpIn_exit ⟨E,ha,h⟩
theorem Ah (h:Q .ret E w):T x .ret Q E w:=fun _ ha=>wpIn_ret ⟨E,ha,h⟩
theorem uC {c:Operand} {b:Bool} {p q:Code} (hc:ev E c=some (.bool b)) (h:T x (if b then p else q) Q E w):T x (.cond c p q) Q E w :=
 fun a ha=>wpIn_cond (ha.ev hc) (h a ha)
theorem nJ {c:Operand} {p q:Code} (hc:ev E c=some (.bool true)) (h:T x p Q E w):T x (.cond c p q) Q E w:=uC hc h
theorem nK {c:Operand} {p q:Code} (hc:ev E c=some (.bool false)) (h:T x q Q E w):T x (.cond c p q) Q E w:=uC hc h
theorem Fv {c:Operand} {b:Bool} {p q:Code} (hc:ev E c=some (.bool b)) (h1:b=true→T x p Q E w) (h2:b=false→T x q Q E w):T x (.cond c p q) Q E w:=by
 cases b with
 | true=>exact nJ hc (h1 rfl)
 | false=>exact nK hc (h2 rfl)
theorem Dp {id:Nat} {c:Code} (h:T x c (bk id Q) E w):T x (.block id c) Q E w:=fun a ha =>
 wpIn_block (wpIn_mono (h a ha) fun e a' w' ⟨E',hE,hq⟩=>by
  cases e with
  | exit id' =>
   simp only [bk] at hq
   simp only [Exit.inBlock]
   cases hb:Nat.beq id' id with
   | true =>
    rw [hb] at hq
    obtain rfl:=Nat.eq_of_beq_eq_true hb
    simp only [if_true]
    exact ⟨E',hE,by simpa using hq⟩
   | false =>
    rw [hb] at hq
    rw [if_neg (Nat.ne_of_beq_eq_false hb)]
    exact ⟨E',hE,by simpa using hq⟩
  | _=>exact ⟨E',hE,hq⟩)
@[reducible] def ng (Q:Exit→Env→World→Prop):Exit→Env→World→Prop
 | .goto _,_,_=>False
 | e,E,w=>Q e E w
theorem Xb (L:List (Nat×Value)) {D:List Deferred} {M:List (Nat×Value)} {c:Code} (hs:Ja L M) (h:T x c Q ⟨D,L⟩ w):T x c Q ⟨D,M⟩ w:=fun a ha=>h a (ha.sub (E:=⟨D,M⟩) hs)
theorem Tr {c:Code} (I:Nat→Env→World→Prop) {n0:Nat} {D:List Deferred} {M L:List (Nat×Value)} (hL:Ja L M) (h0:I n0 ⟨D,L⟩ w)
  (hstep:∀ n E w,I n E w→T x c (lp I n Q) E w):T x (.loop c) Q ⟨D,M⟩ w:=fun a ha=>by
 intro b k cs hro hb hr
 have key:∀ n a w E,Ag x.N E a→I n E w →
   ∃ e a' w',Tp x.N Q e a' w'∧ArrivesIn (Machine.fenced x.P (RF x.r)) x.P (lone (b.atR a (.code c::.inLoop c::k)) cs w) b k cs e a' w':=by
  intro n
  induction n using Nat.strongRecOn with
  | _ n ih =>
   intro a w E ha hI
   obtain ⟨e,a₁,w₁,⟨E₁,hE₁,hq⟩,harr⟩:=hstep n E w hI a ha b (.inLoop c::k) cs hro hb hr
   cases e with
   | normal =>
    obtain ⟨m,hm,L,hL,hIm⟩:=hq
    obtain ⟨e₂,a₂,w₂,hq₂,harr₂⟩:=ih m hm a₁ w₁ _ (hE₁.sub hL) hIm
    exact ⟨e₂,a₂,w₂,hq₂,.of_steps (StepsIn.trans harr (.one (fenced_calm hb hr rfl) stepR_inLoop)) harr₂⟩
   | exit id=>exact ⟨_,a₁,w₁,⟨E₁,hE₁,hq⟩,.pass (x:=.inLoop c) rfl (fun _ _=>.inl Dr) harr⟩
   | goto l=>exact ⟨_,a₁,w₁,⟨E₁,hE₁,hq⟩,.pass (x:=.inLoop c) rfl (fun _ _=>.inl Dr) harr⟩
   | ret=>exact ⟨_,a₁,w₁,⟨E₁,hE₁,hq⟩,.pass (x:=.inLoop c) rfl (fun _ _=>.inl Dr) harr⟩
   | panic ch=>exact ⟨_,a₁,w₁,⟨E₁,hE₁,hq⟩,.pass (x:=.inLoop c) rfl (fun _ _=>.inl Dr) harr⟩
   | outgrown=>exact ⟨_,a₁,w₁,⟨E₁,hE₁,hq⟩,.pass (x:=.inLoop c) rfl (fun _ _=>.inl Dr) harr⟩
 obtain ⟨e,a',w',hq,harr⟩:=key n0 a w _ (ha.sub (E:=⟨D,M⟩) hL) h0
 exact ⟨e,a',w',hq,.of_steps (.one (fenced_calm hb hr rfl) stepR_loop) harr⟩
def Iv:Op→Bool
 | .defer _=>false
 | _=>true
def S (x:Cx) (o:Oper) (Q:Exit→Env→World→Prop) (K:Value→World→Prop) (E:Env) (w:World):Prop :=
 ∀ a,Ag x.N E a→∀ next:Act→World→Prop,(∀ v w',K v w'→next (a.put o.dst v) w')→o.wpIn (RF x.r) 0 x.P a w next (Tp x.N Q)
def O (x:Cx) (ops:Array Oper) (Q:Exit→Env→World→Prop) (l:List Oper) (E:Env) (w:World):Prop :=
 (∀ o∈l,∀ d,o.dst=some d→d<x.N)→∀ a,Ag x.N E a→wpListIn (RF x.r) 0 x.P ops (Tp x.N Q) l a w
def Ly (N:Nat) (l:List Oper):Bool:=l.all fun o=>match o.dst with | some d=>Nat.blt d N | none=>true
theorem Uw {N:Nat} {l:List Oper} (h:Ly N l=true):∀ o∈l,∀ d,o.dst=some d→d<N:=by
 intro o ho d hd
 have:=List.all_eq_true.1 h o ho
 simp only [hd] at this
 simpa [Nat.blt_eq] using this
theorem gM {id:Nat} {l:List Oper} (hd:Ly x.N l=true) (h:O x l.toArray Q l E w):T x (.region id l.toArray false) Q E w :=
 fun a ha=>wpIn_region_lit (h (Uw hd) a ha)
theorem Cl {ops:Array Oper} (h:Q .normal E w):O x ops Q [] E w:=fun _ _ ha=>wpListIn_nil ⟨E,ha,h⟩
theorem O_s {ops:Array Oper} {t:Tmp} {op:Op} {ty:TypeId} {pos:String} {aft:Array Edge} {l:List Oper} {D:List Deferred} {L:List (Nat×Value)}
  (h:S x ⟨some t,op,ty,pos,aft,none⟩ Q (fun v w'=>O x ops Q l ⟨D,(t,v)::L⟩ w') ⟨D,L⟩ w):O x ops Q (⟨some t,op,ty,pos,aft,none⟩::l) ⟨D,L⟩ w:=by
 intro hd a ha
 refine wpListIn_plain rfl fun K hK=>h a ha K fun v w' hv=>hK _ _ ?_
 exact hv (fun o' ho'=>hd o' (List.mem_cons_of_mem _ ho')) _ (ha.put (some t) _ (hd _ List.mem_cons_self))
theorem O_n {ops:Array Oper} {op:Op} {ty:TypeId} {pos:String} {aft:Array Edge} {l:List Oper}
  (h:S x ⟨none,op,ty,pos,aft,none⟩ Q (fun _ w'=>O x ops Q l E w') E w):O x ops Q (⟨none,op,ty,pos,aft,none⟩::l) E w:=by
 intro hd a ha
 refine wpListIn_plain rfl fun K hK=>h a ha K fun v w' hv=>hK _ _ ?_
 exact hv (fun o' ho'=>hd o' (List.mem_cons_of_mem _ ho')) _ (ha.put none _ (hd _ List.mem_cons_self))
theorem Ch (d:Nat) {ops:Array Oper} {t:Tmp} {op:Op} {ty:TypeId} {pos:String} {aft:Array Edge} {l:List Oper} {D:List Deferred} {L:List (Nat×Value)} {j:Nat} {b:Bool} (hj:(ops[j]?).bind (·.dst)=some d) (hb:Ge L d=some (.bool b))
  (h:S x ⟨some t,op,ty,pos,aft,some (j,b)⟩ Q (fun v w'=>O x ops Q l ⟨D,(t,v)::L⟩ w') ⟨D,L⟩ w):O x ops Q (⟨some t,op,ty,pos,aft,some (j,b)⟩::l) ⟨D,L⟩ w:=by
 intro hd a ha
 have hw:Region.wanted (⟨some t,op,ty,pos,aft,some (j,b)⟩:Oper) (yielded ops a.tmps)=true:=by
  simp only [Region.wanted,yielded,hj,Option.bind_some,ha.look d _ hb]
  simp
 refine wpListIn_step fun K hK=>?_
 rw [if_pos hw]
 refine h a ha K fun v w' hv=>hK _ _ ?_
 exact hv (fun o' ho'=>hd o' (List.mem_cons_of_mem _ ho')) _ (ha.put (some t) _ (hd _ List.mem_cons_self))
theorem O_no (d:Nat) {ops:Array Oper} {t:Tmp} {op:Op} {ty:TypeId} {pos:String} {aft:Array Edge} {l:List Oper} {D:List Deferred} {L:List (Nat×Value)} {j:Nat} {b:Bool} (hj:(ops[j]?).bind (·.dst)=some d) (hb:Ge L d=some (.bool (!b)))
  (h:O x ops Q l ⟨D,(t,undef)::L⟩ w):O x ops Q (⟨some t,op,ty,pos,aft,some (j,b)⟩::l) ⟨D,L⟩ w:=by
 intro hd a ha
 have hw:Region.wanted (⟨some t,op,ty,pos,aft,some (j,b)⟩:Oper) (yielded ops a.tmps)=false:=by
  simp only [Region.wanted,yielded,hj,Option.bind_some,ha.look d _ hb]
  cases b<;>rfl
 refine wpListIn_step fun K hK=>?_
 rw [hw]
 simp only [Bool.false_eq_true,if_false]
 exact ⟨fun _ _=>trivial,hK _ _ (h (fun o' ho'=>hd o' (List.mem_cons_of_mem _ ho')) _ (ha.put (some t) _ (hd _ List.mem_cons_self)))⟩
end
section
variable {r:Option Nat} {P:Program} {ops:Array Oper} {Q:Exit→Act→World→Prop} {pre:List Nat} {W:World→Prop}
def anc (ops:Array Oper):Nat→Nat→Nat→Bool
 | 0,_,_=>false
 | n+1,t,i=>match ops[t]? with
  | none=>false
  | some o=>(o.after.toList.any fun e=>Region.binds .any e && Nat.beq e.on i) || (o.after.toList.any fun e=>Region.binds .any e && anc ops n e.on i)
def DC (ops:Array Oper) (listed:Array Bool):Prop:=∀ (j:Nat) (o:Oper),ops[j]?=some o→listed.getD j false=true→∀ e∈o.after,Region.binds .any e=true→listed.getD e.on false=true
theorem Qg {ops:Array Oper} {listed:Array Bool} (h:DC ops listed) {i:Nat}:∀ (n t:Nat) (o:Oper),ops[t]?=some o→(∀ e∈o.after,Region.binds .any e=true→listed.getD e.on false=true)→anc ops n t i=true→listed.getD i false=true
 | 0,_,_,_,_,h2=>by cases h2
 | n+1,t,o,ho,hall,h2=>by
  simp only [anc,ho,Bool.or_eq_true] at h2
  rcases h2 with h2 | h2
  ·obtain ⟨e,he,hb⟩:=List.any_eq_true.1 h2
   simp only [Bool.and_eq_true] at hb
   have:=hall e (by simpa using he) hb.1
   rw [Nat.eq_of_beq_eq_true hb.2] at this
   exact this
  ·obtain ⟨e,he,hb⟩:=List.any_eq_true.1 h2
   simp only [Bool.and_eq_true] at hb
   have hl:=hall e (by simpa using he) hb.1
   cases hp:ops[e.on]? with
   | none =>
    cases n with
    | zero=>simp [anc] at hb
    | succ n=>simp [anc,hp] at hb
   | some p=>exact Qg h n e.on p hp (h e.on p hp hl) hb.2
theorem DC.set {ops:Array Oper} {listed:Array Bool} (h:DC ops listed) {j:Nat} {oj:Oper} (hj:ops[j]?=some oj) (hall:∀ e∈oj.after,Region.binds .any e=true→listed.getD e.on false=true):DC ops (listed.setIfInBounds j true):=by
 have up:∀ k,listed.getD k false=true→(listed.setIfInBounds j true).getD k false=true:=fun k hk=>by
  by_cases hkj:j=k
  ·subst hkj
   simp only [Array.getD_eq_getD_getElem?] at hk ⊢
   rcases Nat.lt_or_ge j listed.size with h' | h'
   ·rw [Array.getElem?_setIfInBounds_self_of_lt h'];rfl
   ·rw [Array.getElem?_eq_none h'] at hk;cases hk
  ·rw [getD_set_ne false hkj];exact hk
 intro k o ho hk e he hb
 by_cases hkj:j=k
 ·subst hkj
  rw [hj] at ho
  injection ho with ho
  subst ho
  exact up _ (hall e he hb)
 ·rw [getD_set_ne false hkj] at hk
  exact up _ (h k o ho hk e he hb)
def Lz (r:Option Nat) (P:Program) (ops:Array Oper) (Q:Exit→Act→World→Prop) (pre:List Nat) (W:World→Prop):Nat→Array Bool→Act→World→Prop
 | 0,listed,a,w=>Region.ready .any ops listed=[]∧Q .normal a w
 | fuel+1,listed,a,w =>
  (Region.ready .any ops listed=[]→Q .normal a w) ∧
  ∀ i∈Region.ready .any ops listed,wpOpIn (RF r) 0 P ops Q i (fun a' w'=>(pre.contains i=true→W w')∧Lz r P ops Q pre W fuel (listed.setIfInBounds i true) a' w') a w
theorem Re:∀ (fuel:Nat) (listed:Array Bool) (a:Act) (w:World),Lz r P ops Q pre W fuel listed a w→wpAnyIn (RF r) 0 P .any ops Q fuel listed a w
 | 0,_,_,_,h=>h
 | fuel+1,_,_,_,h=>⟨h.1,fun i hi=>wpOpIn_mono (fun a' w' h'=>Re fuel _ a' w' h'.2) (h.2 i hi)⟩
theorem YieldsIf.wpOpInS {i:Nat} {o:Oper} {v:Value} {a:Act} (hi:ops[i]?=some o) (hnd:∀ c,o.op≠.defer c) (hy:YieldsIf P ops W o v a)
  {K:Act→World→Prop} {w:World} (hW:W w) (h:K (a.put o.dst v) w):wpOpIn (RF r) 0 P ops Q i K a w:=by
 unfold Go.wpOpIn
 simp only [hi]
 rcases hy with ⟨hw,hv⟩ | ⟨hw,rfl⟩
 ·simp only [hw,if_true,Oper.wpIn,Oper.semAt_eq _ _ _ hnd,hv w hW,Oper.uponIn];exact ⟨fun _ _=>trivial,h⟩
 ·simp only [hw,Bool.false_eq_true,if_false];exact ⟨fun _ _=>trivial,h⟩
theorem Ux {j:Nat} {oi oj:Oper} {v:Value} (hj:ops[j]?=some oj) (hap:oi.apart ops oj=true)
  (hsi:∀ cs b,oi.op≠.select cs b) (hsj:∀ cs b,oj.op≠.select cs b) (hnd:∀ c,oj.op≠.defer c)
  (hQ:∀ c a w,Q (.panic c) (a.put oi.dst v) w→Q (.panic c) a w) {K:Act→World→Prop} {a:Act} {w:World}
  (hy:YieldsIf P ops W oi v a) (h:wpOpIn (RF r) 0 P ops Q j K (a.put oi.dst v) w) :
  wpOpIn (RF r) 0 P ops Q j (fun a' w'=>YieldsIf P ops W oi v a'∧K (a'.put oi.dst v) w') a w:=by
 obtain ⟨h1,h2,h3⟩:=Oper.apart_spec hap
 have keep:∀ (a:Act),YieldsIf P ops W oi v a→∀ u,YieldsIf P ops W oi v (a.put oj.dst u):=fun a hy u =>
  hy.of_same (execOp_put oi hsi a oj.dst u h3) (wanted_put oi a oj.dst u h3)
 have keepD:∀ d,YieldsIf P ops W oi v { a with defers:=d::a.defers }:=fun d=>hy.of_same rfl rfl
 unfold wpOpIn at *
 simp only [hj] at *
 rw [wanted_put oj a oi.dst v h1] at h
 split
 ·rename_i hw
  simp only [hw,if_true] at h
  unfold Oper.wpIn at *
  refine ⟨fun _ _=>trivial,?_⟩
  have h:=h.2
  rw [Oper.semAt_eq _ _ _ hnd,execOp_put oj hsj a oi.dst v h1] at h
  rw [Oper.semAt_eq _ _ _ hnd]
  generalize (execOp a.eval oj).run P w=res at *
  cases res with
  | ok x w' =>
   cases x<;>simp only [Oper.uponIn] at h ⊢
   case value u=>exact ⟨keep a hy u,by rw [← Act.put_comm a v u h2];exact h⟩
   case skip=>exact ⟨keep a hy _,by rw [← Act.put_comm a v undef h2];exact h⟩
   case defer d =>
    refine ⟨keep _ (keepD d) _,?_⟩
    rw [← Act.put_comm _ v undef h2,← Act.put_defers]
    exact h
   case enter f args =>
    refine ⟨h.1,CallsIn.mono h.2 fun e w'' he=>?_⟩
    cases e with
    | returned u=>exact ⟨keep a hy u,by rw [← Act.put_comm a v u h2];exact he⟩
    | panicked c=>exact hQ _ _ _ he
    | outgrown=>exact he
   case row row args=>exact ⟨h.1,RowsIn.mono h.2 fun u w'' he=>⟨keep a hy u,by rw [← Act.put_comm a v u h2];exact he⟩⟩
   case round l f tmps assign body =>
    refine ⟨h.1,RoundIn.mono h.2 fun e w'' he=>?_⟩
    cases e with
    | returned u=>exact ⟨keep a hy u,by rw [← Act.put_comm a v u h2];exact he⟩
    | panicked c=>exact hQ _ _ _ he
    | outgrown=>exact he
  | halt x w' =>
   cases x<;>simp only [Oper.uponIn] at h ⊢
   case panic u=>exact hQ _ _ _ h
 ·rename_i hw
  simp only [hw] at h
  exact ⟨fun _ _=>trivial,keep a hy _,by rw [← Act.put_comm a v undef h2];exact h.2⟩
theorem Rg {i:Nat} {oi:Oper} {v:Value} (hi:ops[i]?=some oi) (hsel:∀ (j:Nat) (o:Oper) cs b,ops[j]?=some o→o.op≠.select cs b)
  (hnd:∀ (j:Nat) (o:Oper) c,ops[j]?=some o→o.op≠.defer c)
  (hQ:∀ c a w,Q (.panic c) (a.put oi.dst v) w→Q (.panic c) a w) :
  ∀ (fuel:Nat) (listed:Array Bool) (a:Act) (w:World),
   (∀ j oj,ops[j]?=some oj→j≠i→listed.getD j true=false→(∀ e∈oj.after,Region.binds .any e=true→e.on≠i)→oi.apart ops oj=true) →
   i∈Region.ready .any ops listed→(∀ (j:Nat) (o:Oper),ops[j]?=some o→j≠i→pre.contains j=false→listed.getD j true=false→anc ops ops.size j i=true)→DC ops listed→YieldsIf P ops W oi v a→W w →
   Lz r P ops Q pre W fuel (listed.setIfInBounds i true) (a.put oi.dst v) w→Lz r P ops Q pre W (fuel+1) listed a w:=by
 intro fuel
 induction fuel with
 | zero =>
  intro listed a w _ hr _ hp hy hS H
  refine ⟨fun h=>(by rw [h] at hr;cases hr),fun j hj=>?_⟩
  by_cases hji:j=i
  ·subst hji;exact YieldsIf.wpOpInS hi (fun c=>hnd j oi c hi) hy hS ⟨fun _=>hS,H⟩
  ·have:=ready_mono hj hji
   rw [H.1] at this
   cases this
 | succ fuel ih =>
  intro listed a w hfree hr htail hp hy hS H
  refine ⟨fun h=>(by rw [h] at hr;cases hr),fun j hj=>?_⟩
  by_cases hji:j=i
  ·subst hji;exact YieldsIf.wpOpInS hi (fun c=>hnd j oi c hi) hy hS ⟨fun _=>hS,H⟩
  ·have h1:=H.2 j (ready_mono hj hji)
   obtain ⟨hjun,oj,hoj,hall⟩:=mem_ready.1 hj
   have hnot:∀ e∈oj.after,Region.binds .any e=true→e.on≠i:=fun e he hb heq=>by
    have h1:=hall e he hb
    have h0:=(mem_ready.1 hr).1
    rw [heq] at h1
    rcases Nat.lt_or_ge i listed.size with h' | h'
    ·simp [h'] at h0 h1;rw [h0] at h1;cases h1
    ·simp [Array.getElem?_eq_none h'] at h1
   have h2:=Ux hoj (hfree j oj hoj hji hjun hnot) (fun cs b=>hsel i oi cs b hi) (fun cs b=>hsel j oj cs b hoj) (fun c=>hnd j oj c hoj) hQ hy h1
   have hfree':∀ k ok,ops[k]?=some ok→k≠i→(listed.setIfInBounds j true).getD k true=false →
     (∀ e∈ok.after,Region.binds .any e=true→e.on≠i)→oi.apart ops ok=true:=fun k ok hk hki hun hno=>by
    refine hfree k ok hk hki ?_ hno
    by_cases hjk:j=k
    ·subst hjk;exact hjun
    ·rw [getD_set_ne true hjk] at hun;exact hun
   have hall':∀ e∈oj.after,Region.binds .any e=true→listed.getD e.on false=true:=hall
   have hjp:pre.contains j=true:=by
    cases hc:pre.contains j with
    | true=>rfl
    | false =>
     have h5:=Qg hp ops.size j oj hoj hall' (htail j oj hoj hji hc hjun)
     have h6:=(mem_ready.1 hr).1
     simp only [Array.getD_eq_getD_getElem?] at h5 h6
     cases hg:listed[i]? with
     | none=>rw [hg] at h5;cases h5
     | some b=>rw [hg] at h5 h6;simp at h5 h6;rw [h5] at h6;cases h6
   have htail':∀ (k:Nat) (o:Oper),ops[k]?=some o→k≠i→pre.contains k=false→(listed.setIfInBounds j true).getD k true=false→anc ops ops.size k i=true:=fun k ok hk hki hkp hun=>by
    refine htail k ok hk hki hkp ?_
    by_cases hjk:j=k
    ·subst hjk;exact hjun
    ·rw [getD_set_ne true hjk] at hun;exact hun
   refine wpOpIn_mono (fun a' w' h3=>⟨fun _=>h3.2.1 hjp,ih (listed.setIfInBounds j true) a' w' hfree' (ready_mono hr (Ne.symm hji)) htail' (hp.set hoj hall') h3.1 (h3.2.1 hjp) ?_⟩) h2
   rw [Array.setIfInBounds_comm _ _ hji]
   exact h3.2.2
theorem bU {i:Nat} {oi:Oper} {v:Value} (hi:ops[i]?=some oi) (hsel:∀ (j:Nat) (o:Oper) cs b,ops[j]?=some o→o.op≠.select cs b)
  (hnd:∀ (j:Nat) (o:Oper) c,ops[j]?=some o→o.op≠.defer c) (hip:pre.contains i=false)
  (hQ:∀ c a w,Q (.panic c) (a.put oi.dst v) w→Q (.panic c) a w) :
  ∀ (fuel:Nat) (listed:Array Bool) (a:Act) (w:World),
   (∀ j oj,ops[j]?=some oj→j≠i→listed.getD j true=false→(∀ e∈oj.after,Region.binds .any e=true→e.on≠i)→oi.apart ops oj=true) →
   i∈Region.ready .any ops listed→YieldsIf P ops (fun _=>True) oi v a →
   Lz r P ops Q pre W fuel (listed.setIfInBounds i true) (a.put oi.dst v) w→Lz r P ops Q pre W (fuel+1) listed a w:=by
 have hno:∀ w:World,pre.contains i=true→W w:=fun w h=>by rw [hip] at h;cases h
 intro fuel
 induction fuel with
 | zero =>
  intro listed a w _ hr hy H
  refine ⟨fun h=>(by rw [h] at hr;cases hr),fun j hj=>?_⟩
  by_cases hji:j=i
  ·subst hji;exact YieldsIf.wpOpInS hi (fun c=>hnd j oi c hi) hy trivial ⟨hno w,H⟩
  ·have:=ready_mono hj hji
   rw [H.1] at this
   cases this
 | succ fuel ih =>
  intro listed a w hfree hr hy H
  refine ⟨fun h=>(by rw [h] at hr;cases hr),fun j hj=>?_⟩
  by_cases hji:j=i
  ·subst hji;exact YieldsIf.wpOpInS hi (fun c=>hnd j oi c hi) hy trivial ⟨hno w,H⟩
  ·have h1:=H.2 j (ready_mono hj hji)
   obtain ⟨hjun,oj,hoj,hall⟩:=mem_ready.1 hj
   have hnot:∀ e∈oj.after,Region.binds .any e=true→e.on≠i:=fun e he hb heq=>by
    have h1:=hall e he hb
    have h0:=(mem_ready.1 hr).1
    rw [heq] at h1
    rcases Nat.lt_or_ge i listed.size with h' | h'
    ·simp [h'] at h0 h1;rw [h0] at h1;cases h1
    ·simp [Array.getElem?_eq_none h'] at h1
   have h2:=Ux hoj (hfree j oj hoj hji hjun hnot) (fun cs b=>hsel i oi cs b hi) (fun cs b=>hsel j oj cs b hoj) (fun c=>hnd j oj c hoj) hQ hy h1
   have hfree':∀ k ok,ops[k]?=some ok→k≠i→(listed.setIfInBounds j true).getD k true=false →
     (∀ e∈ok.after,Region.binds .any e=true→e.on≠i)→oi.apart ops ok=true:=fun k ok hk hki hun hno=>by
    refine hfree k ok hk hki ?_ hno
    by_cases hjk:j=k
    ·subst hjk;exact hjun
    ·rw [getD_set_ne true hjk] at hun;exact hun
   refine wpOpIn_mono (fun a' w' h3=>⟨h3.2.1,ih (listed.setIfInBounds j true) a' w' hfree' (ready_mono hr (Ne.symm hji)) h3.1 ?_⟩) h2
   rw [Array.setIfInBounds_comm _ _ hji]
   exact h3.2.2
end
def np (Q:Exit→Env→World→Prop):Exit→Env→World→Prop
 | .panic _,_,_=>False
 | e,E,w=>Q e E w
def A (x:Cx) (ops:Array Oper) (pre:List Nat) (W:World→Prop) (Q:Exit→Env→World→Prop) (fuel:Nat) (listed:Array Bool) (E:Env) (w:World):Prop :=
 Ly x.N ops.toList=true→Region.noSelect ops=true→(∀ (j:Nat) (o:Oper) c,ops[j]?=some o→o.op≠.defer c)→DC ops listed →
 ∀ a,Ag x.N E a→Lz x.r x.P ops (Tp x.N (np Q)) pre W fuel listed a w
def nL (ops:Array Oper):Bool:=ops.toList.all fun o=>match o.op with | .defer _=>false | _=>true
theorem eE {ops:Array Oper} (h:nL ops=true):∀ (j:Nat) (o:Oper) c,ops[j]?=some o→o.op≠.defer c:=by
 intro j o c ho hc
 have:=List.all_eq_true.1 h o (by simpa using Array.mem_of_getElem? ho)
 rw [hc] at this
 cases this
def Y (x:Cx) (W:World→Prop) (o:Oper) (E:Env) (K:Value→Prop):Prop :=
 ∃ v,(∀ a,Ag x.N E a→∀ w,W w→(execOp a.eval o).run x.P w=.ok (.value v) w)∧K v
section
variable {x:Cx} {ops:Array Oper} {pre:List Nat} {W:World→Prop} {Q:Exit→Env→World→Prop} {E:Env} {w:World}
def eF (P:Program) (N:Nat) (ops:Array Oper):Bool :=
 P.follows .mixedOrders && Region.noSelect ops && nL ops && Ly N ops.toList
theorem uD {id:Nat} {l:List Oper} (pre:List Nat) (W:World→Prop) (hm:eF x.P x.N l.toArray=true)
  (h:A x l.toArray pre W Q l.length (Array.replicate l.length false) E { w with drawn:=w.drawn+1 }):T x (.region id l.toArray true) Q E w:=by
 simp only [eF,Bool.and_eq_true] at hm
 obtain ⟨⟨⟨h1,h2⟩,h3⟩,h4⟩:=hm
 intro a ha
 refine wpIn_mono (wpIn_region_any h1 (Re (pre:=pre) (W:=W) (Q:=Tp x.N (np Q)) _ _ _ _ ?_)) ?_
 ·have:=h h4 h2 (eE h3) (fun j o _ hl=>by
   simp only [Array.getD_eq_getD_getElem?] at hl
   rcases Nat.lt_or_ge j l.length with h' | h'
   ·simp [h'] at hl
   ·simp [h'] at hl) a ha
  simpa using this
 ·rintro e a' w' ⟨E',hE,hq⟩
  refine ⟨E',hE,?_⟩
  cases e<;>first|exact hq|exact hq.elim
theorem Qh {fuel:Nat} {listed:Array Bool} (hr:(Region.ready .any ops listed).isEmpty=true) (h:Q .normal E w):A x ops pre W Q fuel listed E w:=fun _ _ _ _ a ha=>by
 have hr':Region.ready .any ops listed=[]:=by simpa using hr
 cases fuel with
 | zero=>exact ⟨hr',E,ha,h⟩
 | succ n=>exact ⟨fun _=>⟨E,ha,h⟩,by rw [hr'];simp⟩
def gd (ops:Array Oper) (o:Oper) (E:Env):Option Bool :=
 match o.guard with
 | none=>some true
 | some (j,b)=>((ops[j]?).bind (·.dst)).bind fun d =>
  match Ge E.l d with
  | some (.bool c)=>some (c == b)
  | some _=>some false
  | none=>none
theorem Rh {o:Oper} {b:Bool} (h:gd ops o E=some b) {a:Act} {N:Nat} (ha:Ag N E a):Region.wanted o (yielded ops a.tmps)=b:=by
 unfold gd at h
 unfold Region.wanted
 cases hg:o.guard with
 | none=>rw [hg] at h;simpa using h
 | some p =>
  obtain ⟨j,want⟩:=p
  rw [hg] at h
  simp only at h ⊢
  unfold yielded
  cases hj:(ops[j]?).bind (·.dst) with
  | none=>rw [hj] at h;cases h
  | some d =>
   rw [hj] at h
   simp only [Option.bind_some] at h ⊢
   cases he:Ge E.l d with
   | none=>rw [he] at h;cases h
   | some u =>
    rw [he] at h
    rw [ha.look d u he]
    cases u with
    | bool c=>simp at h ⊢;rw [← h]
    | _=>simp at h ⊢;exact h
theorem Xc {i:Nat} {o:Oper} {N:Nat} (h:Ly N ops.toList=true) (hi:ops[i]?=some o):∀ d,o.dst=some d→d<N :=
 Uw h o (by simpa using Array.mem_of_getElem? hi)
theorem Kx {N:Nat} {c:List PanicEntry} {a a':Act} {w w':World} (h:Tp N (np Q) (.panic c) a w):Tp N (np Q) (.panic c) a' w':=by
 obtain ⟨_,_,h⟩:=h
 exact h.elim
theorem DC.ready {listed:Array Bool} (h:DC ops listed) {i:Nat} (hi:i∈Region.ready .any ops listed):DC ops (listed.setIfInBounds i true):=by
 obtain ⟨_,oj,hoj,hall⟩:=mem_ready.1 hi
 exact h.set hoj hall
def Ts (ops:Array Oper) (pre:List Nat) (listed:Array Bool) (i:Nat):Bool :=
 Region.free .any ops listed i && (Region.ready .any ops listed).contains i && (List.range ops.size).all fun j=>Nat.beq j i || pre.contains j || listed.getD j true || anc ops ops.size j i
theorem Uy {listed:Array Bool} {i:Nat} (h:Ts ops pre listed i=true):Region.free .any ops listed i=true∧i∈Region.ready .any ops listed∧∀ (j:Nat) (o:Oper),ops[j]?=some o→j≠i→pre.contains j=false→listed.getD j true=false→anc ops ops.size j i=true:=by
 simp only [Ts,Bool.and_eq_true] at h
 obtain ⟨⟨h1,h2⟩,h3⟩:=h
 refine ⟨h1,by simpa using h2,fun j o ho hji hc hun=>?_⟩
 have hj:j<ops.size:=(Array.getElem?_eq_some_iff.1 ho).1
 have h4:=List.all_eq_true.1 h3 j (List.mem_range.2 hj)
 rw [hc,hun] at h4
 simp only [Bool.or_false,Bool.or_eq_true] at h4
 rcases h4 with h4 | h4
 ·exact absurd (Nat.eq_of_beq_eq_true h4) hji
 ·exact h4
theorem uE (i:Nat) {t:Tmp} {op:Op} {ty:TypeId} {pos:String} {aft:Array Edge} {g:Option (Nat×Bool)} {D:List Deferred} {L:List (Nat×Value)} {fuel:Nat} {listed:Array Bool} (hi:ops[i]?=some ⟨some t,op,ty,pos,aft,g⟩)
  (hf:Ts ops pre listed i=true) (hg:gd ops ⟨some t,op,ty,pos,aft,g⟩ ⟨D,L⟩=some true) (hW:W w)
  (hy:Y x W ⟨some t,op,ty,pos,aft,g⟩ ⟨D,L⟩ fun v=>A x ops pre W Q fuel (listed.setIfInBounds i true) ⟨D,(t,v)::L⟩ w):A x ops pre W Q (fuel+1) listed ⟨D,L⟩ w:=by
 intro h1 h2 h3 h4 a ha
 obtain ⟨v,hv,hK⟩:=hy
 obtain ⟨f1,f2,f3⟩:=Uy hf
 exact Rg hi (Region.noSelect_spec h2) h3 (fun c a w=>Kx) fuel listed a w (Region.free_spec hi f1) f2 f3 h4
  (.inl ⟨Rh hg ha,hv a ha⟩) hW (hK h1 h2 h3 (h4.ready f2) _ (ha.put (some t) _ (Xc h1 hi)))
theorem Ky (i:Nat) {t:Tmp} {op:Op} {ty:TypeId} {pos:String} {aft:Array Edge} {g:Option (Nat×Bool)} {D:List Deferred} {L:List (Nat×Value)} {fuel:Nat} {listed:Array Bool} (hi:ops[i]?=some ⟨some t,op,ty,pos,aft,g⟩)
  (hf:(Region.free .any ops listed i && (Region.ready .any ops listed).contains i && !pre.contains i)=true) (hg:gd ops ⟨some t,op,ty,pos,aft,g⟩ ⟨D,L⟩=some true)
  (hy:Y x (fun _=>True) ⟨some t,op,ty,pos,aft,g⟩ ⟨D,L⟩ fun v=>A x ops pre W Q fuel (listed.setIfInBounds i true) ⟨D,(t,v)::L⟩ w):A x ops pre W Q (fuel+1) listed ⟨D,L⟩ w:=by
 intro h1 h2 h3 h4 a ha
 obtain ⟨v,hv,hK⟩:=hy
 simp only [Bool.and_eq_true,Bool.not_eq_true'] at hf
 obtain ⟨⟨f1,f2⟩,f3⟩:=hf
 have f2':i∈Region.ready .any ops listed:=by simpa using f2
 exact bU hi (Region.noSelect_spec h2) h3 f3 (fun c a w=>Kx) fuel listed a w (Region.free_spec hi f1) f2'
  (.inl ⟨Rh hg ha,fun w _=>hv a ha w trivial⟩) (hK h1 h2 h3 (h4.ready f2') _ (ha.put (some t) _ (Xc h1 hi)))
theorem A_skip (i:Nat) {t:Tmp} {op:Op} {ty:TypeId} {pos:String} {aft:Array Edge} {g:Option (Nat×Bool)} {D:List Deferred} {L:List (Nat×Value)} {fuel:Nat} {listed:Array Bool} (hi:ops[i]?=some ⟨some t,op,ty,pos,aft,g⟩)
  (hf:Ts ops pre listed i=true) (hg:gd ops ⟨some t,op,ty,pos,aft,g⟩ ⟨D,L⟩=some false) (hW:W w)
  (hK:A x ops pre W Q fuel (listed.setIfInBounds i true) ⟨D,(t,undef)::L⟩ w):A x ops pre W Q (fuel+1) listed ⟨D,L⟩ w:=by
 intro h1 h2 h3 h4 a ha
 obtain ⟨f1,f2,f3⟩:=Uy hf
 exact Rg hi (Region.noSelect_spec h2) h3 (fun c a w=>Kx) fuel listed a w (Region.free_spec hi f1) f2 f3 h4
  (.inr ⟨Rh hg ha,rfl⟩) hW (hK h1 h2 h3 (h4.ready f2) _ (ha.put (some t) _ (Xc h1 hi)))
def A1 (x:Cx) (ops:Array Oper) (pre:List Nat) (W:World→Prop) (Q:Exit→Env→World→Prop) (fuel:Nat) (listed:Array Bool) (E:Env) (w:World) (i:Nat):Prop :=
 ∃ o,ops[i]?=some o∧gd ops o E=some true∧S x o (np Q) (fun v w'=>(pre.contains i=true→W w')∧A x ops pre W Q fuel (listed.setIfInBounds i true) (E.put o.dst v) w') E w
theorem A_all (rs:List Nat) {fuel:Nat} {listed:Array Bool} (hr:(Region.ready .any ops listed == rs && !rs.isEmpty)=true)
  (h:∀ i∈rs,A1 x ops pre W Q fuel listed E w i):A x ops pre W Q (fuel+1) listed E w:=by
 intro h1 h2 h3 h4 a ha
 simp only [Bool.and_eq_true,beq_iff_eq,Bool.not_eq_true'] at hr
 obtain ⟨hr,hne⟩:=hr
 refine ⟨fun h0=>?_,fun i hi=>?_⟩
 ·rw [h0] at hr;subst hr;cases hne
 ·have hi':=hi
  rw [hr] at hi
  obtain ⟨o,ho,hg,hS⟩:=h i hi
  unfold wpOpIn
  simp only [ho,Rh hg ha,if_true]
  exact hS a ha _ fun v w' ⟨hW,hA⟩=>⟨hW,hA h1 h2 h3 (h4.ready hi') _ (ha.put _ _ (Xc h1 ho))⟩
theorem nM (i:Nat) {o:Oper} {fuel:Nat} {listed:Array Bool} (hi:ops[i]?=some o) (hr:(Region.ready .any ops listed == [i])=true) (hg:gd ops o E=some true)
  (h:S x o (np Q) (fun v w'=>(pre.contains i=true→W w')∧A x ops pre W Q fuel (listed.setIfInBounds i true) (E.put o.dst v) w') E w):A x ops pre W Q (fuel+1) listed E w :=
 A_all [i] (by simpa using hr) fun j hj=>by
  obtain rfl:j=i:=by simpa using hj
  exact ⟨o,hi,hg,h⟩
theorem Tt {o:Oper} {K K':Value→World→Prop} (h:S x o Q K E w) (hk:∀ v w,K v w→K' v w):S x o Q K' E w :=
 fun a ha next hn=>h a ha next fun v w' hv=>hn v w' (hk v w' hv)
theorem A_only (i:Nat) {t:Tmp} {op:Op} {ty:TypeId} {pos:String} {aft:Array Edge} {g:Option (Nat×Bool)} {D:List Deferred} {L:List (Nat×Value)} {fuel:Nat} {listed:Array Bool} (hi:ops[i]?=some ⟨some t,op,ty,pos,aft,g⟩)
  (hr:(Region.ready .any ops listed == [i])=true) (hg:gd ops ⟨some t,op,ty,pos,aft,g⟩ ⟨D,L⟩=some true)
  (h:S x ⟨some t,op,ty,pos,aft,g⟩ (np Q) (fun v w'=>W w'∧A x ops pre W Q fuel (listed.setIfInBounds i true) ⟨D,(t,v)::L⟩ w') ⟨D,L⟩ w):A x ops pre W Q (fuel+1) listed ⟨D,L⟩ w :=
 nM i hi hr hg (Tt h fun _ _ hv=>⟨fun _=>hv.1,hv.2⟩)
theorem A_tail (i:Nat) {t:Tmp} {op:Op} {ty:TypeId} {pos:String} {aft:Array Edge} {g:Option (Nat×Bool)} {D:List Deferred} {L:List (Nat×Value)} {fuel:Nat} {listed:Array Bool} (hi:ops[i]?=some ⟨some t,op,ty,pos,aft,g⟩)
  (hr:(Region.ready .any ops listed == [i])=true) (hp:pre.contains i=false) (hg:gd ops ⟨some t,op,ty,pos,aft,g⟩ ⟨D,L⟩=some true)
  (h:S x ⟨some t,op,ty,pos,aft,g⟩ (np Q) (fun v w'=>A x ops pre W Q fuel (listed.setIfInBounds i true) ⟨D,(t,v)::L⟩ w') ⟨D,L⟩ w):A x ops pre W Q (fuel+1) listed ⟨D,L⟩ w :=
 nM i hi hr hg (Tt h fun _ _ hv=>⟨fun hc=>(by rw [hp] at hc;cases hc),hv⟩)
theorem A_tailN (i:Nat) {op:Op} {ty:TypeId} {pos:String} {aft:Array Edge} {g:Option (Nat×Bool)} {fuel:Nat} {listed:Array Bool} (hi:ops[i]?=some ⟨none,op,ty,pos,aft,g⟩)
  (hr:(Region.ready .any ops listed == [i])=true) (hp:pre.contains i=false) (hg:gd ops ⟨none,op,ty,pos,aft,g⟩ E=some true)
  (h:S x ⟨none,op,ty,pos,aft,g⟩ (np Q) (fun _ w'=>A x ops pre W Q fuel (listed.setIfInBounds i true) E w') E w):A x ops pre W Q (fuel+1) listed E w :=
 nM i hi hr hg (Tt h fun _ _ hv=>⟨fun hc=>(by rw [hp] at hc;cases hc),hv⟩)
theorem Kq (i j:Nat) {t t':Tmp} {op op':Op} {ty ty':TypeId} {pos pos':String} {aft aft':Array Edge} {g g':Option (Nat×Bool)} {D:List Deferred} {L:List (Nat×Value)} {fuel:Nat} {listed:Array Bool} (hi:ops[i]?=some ⟨some t,op,ty,pos,aft,g⟩) (hj:ops[j]?=some ⟨some t',op',ty',pos',aft',g'⟩)
  (hr:(Region.ready .any ops listed == [i,j])=true) (hg:gd ops ⟨some t,op,ty,pos,aft,g⟩ ⟨D,L⟩=some true) (hg':gd ops ⟨some t',op',ty',pos',aft',g'⟩ ⟨D,L⟩=some true)
  (h:S x ⟨some t,op,ty,pos,aft,g⟩ (np Q) (fun v w'=>W w'∧A x ops pre W Q fuel (listed.setIfInBounds i true) ⟨D,(t,v)::L⟩ w') ⟨D,L⟩ w)
  (h':S x ⟨some t',op',ty',pos',aft',g'⟩ (np Q) (fun v w'=>W w'∧A x ops pre W Q fuel (listed.setIfInBounds j true) ⟨D,(t',v)::L⟩ w') ⟨D,L⟩ w):A x ops pre W Q (fuel+1) listed ⟨D,L⟩ w :=
 A_all [i,j] (by simpa using hr) fun k hk=>by
  rcases (by simpa using hk:k=i∨k=j) with rfl | rfl
  ·exact ⟨_,hi,hg,Tt h fun _ _ hv=>⟨fun _=>hv.1,hv.2⟩⟩
  ·exact ⟨_,hj,hg',Tt h' fun _ _ hv=>⟨fun _=>hv.1,hv.2⟩⟩
theorem Uz {r:Option Nat} {P:Program} {ops:Array Oper} {Q:Exit→Act→World→Prop} {pre:List Nat} {W W':World→Prop} (hW:∀ w,W' w→W w):∀ (fuel:Nat) (listed:Array Bool) (a:Act) (w:World),Lz r P ops Q pre W' fuel listed a w→Lz r P ops Q pre W fuel listed a w
 | 0,_,_,_,h=>h
 | fuel+1,_,_,_,h=>⟨h.1,fun i hi=>wpOpIn_mono (fun _ _ h'=>⟨fun hp=>hW _ (h'.1 hp),Uz hW fuel _ _ _ h'.2⟩) (h.2 i hi)⟩
theorem A_more (W':World→Prop) {fuel:Nat} {listed:Array Bool} (hW:∀ w,W' w→W w) (h:A x ops pre W' Q fuel listed E w):A x ops pre W Q fuel listed E w :=
 fun h1 h2 h3 h4 a ha=>Uz hW _ _ _ _ (h h1 h2 h3 h4 a ha)
theorem S_y {o:Oper} {K:Value→World→Prop} (hW:W w) (hd:Iv o.op=true) (h:Y x W o E fun v=>K v w):S x o Q K E w:=by
 obtain ⟨v,hv,hK⟩:=h
 intro a ha next hn
 refine ⟨fun _ _=>trivial,?_⟩
 rw [Oper.semAt_eq _ _ _ (fun c hc=>by rw [hc] at hd;cases hd),hv a ha w hW]
 exact hn _ _ hK
theorem O_y {t:Tmp} {op:Op} {ty:TypeId} {pos:String} {aft:Array Edge} {l:List Oper} {D:List Deferred} {L:List (Nat×Value)} (hW:W w)
  (h:Y x W ⟨some t,op,ty,pos,aft,none⟩ ⟨D,L⟩ fun v=>O x ops Q l ⟨D,(t,v)::L⟩ w) (hd:Iv op=true:=by rfl):O x ops Q (⟨some t,op,ty,pos,aft,none⟩::l) ⟨D,L⟩ w :=
 O_s (S_y hW hd h)
theorem O_yy (d:Nat) {t:Tmp} {op:Op} {ty:TypeId} {pos:String} {aft:Array Edge} {l:List Oper} {D:List Deferred} {L:List (Nat×Value)} {j:Nat} {b:Bool} (hW:W w) (hj:(ops[j]?).bind (·.dst)=some d) (hb:Ge L d=some (.bool b))
  (h:Y x W ⟨some t,op,ty,pos,aft,some (j,b)⟩ ⟨D,L⟩ fun v=>O x ops Q l ⟨D,(t,v)::L⟩ w) (hd:Iv op=true:=by rfl):O x ops Q (⟨some t,op,ty,pos,aft,some (j,b)⟩::l) ⟨D,L⟩ w :=
 Ch d hj hb (S_y hW hd h)
end
end Go.Ex
namespace Go.Ex
open Go Go.RowKit
abbrev Ghost:=Nat→Option Obj
def Ghost.le (G G':Ghost):Prop:=∀ k o,G k=some o→G' k=some o
theorem Ghost.le.refl (G:Ghost):G.le G:=fun _ _ h=>h
theorem Ghost.le.trans {A B C:Ghost} (h:Ghost.le A B) (k:Ghost.le B C):Ghost.le A C:=fun i o hi=>k i o (h i o hi)
def Ft (G:Ghost) (a:Addr):Option Value :=
 match G a.block with
 | some (.cells c _ _)=>if a.spot.isSome then none else c[a.off]?
 | _=>none
theorem Kb {G G':Ghost} (h:G.le G') {a:Addr} {v:Value} (hv:Ft G a=some v):Ft G' a=some v:=by
 unfold Ft at *
 cases hb:G a.block with
 | none=>rw [hb] at hv;cases hv
 | some o=>rw [hb] at hv;rw [h _ _ hb];exact hv
inductive Res where
 | blk (b:Nat) (e:TypeId) (cs:List Value)
 | row (e:TypeId) (k:Nat) (v:Value) (n:Nat) (xs:List Value)
 | obj (b:Nat) (o:Obj)
def Res.foot:Res→Nat→Prop
 | .blk b _ _,k=>k=b
 | .row _ _ v _ _,k=>v.ownBlock=some k
 | .obj b _,k=>k=b
def Res.holds (w:World):Res→Prop
 | .blk b e cs=>w.heap[b]?=some (.cells cs.toArray e (0,0))
 | .row e k v n xs=>w.ownsRow 0 e k v n xs
 | .obj b o=>w.heap[b]?=some o
theorem Dk {w:World} {k:Nat} {o:Obj} (h:w.heap[k]?=some o):k<w.heap.size:=by
 rcases Nat.lt_or_ge k w.heap.size with hlt | hge
 ·exact hlt
 ·rw [Array.getElem?_eq_none hge] at h;cases h
theorem Res.lt {w:World} {r:Res} (h:r.holds w) {k:Nat} (hk:r.foot k):k<w.heap.size:=by
 cases r with
 | blk b e cs=>cases hk;exact Dk h
 | obj b o=>cases hk;exact Dk h
 | row e s v n xs =>
  rcases h.2 with ⟨rfl,_⟩ | ⟨g,cap,cur,rfl,_,hh,_⟩
  ·cases hk
  ·have:g=k:=by simpa [Res.foot,Value.ownBlock] using hk
   subst this;exact Dk hh
theorem Res.keep {w w':World} {r:Res} (h:r.holds w) (hk:∀ k,r.foot k→w'.heap[k]?=w.heap[k]?):r.holds w':=by
 cases r with
 | blk b e cs=>exact (hk b rfl).trans h
 | obj b o=>exact (hk b rfl).trans h
 | row e s v n xs =>
  refine ⟨h.1,?_⟩
  rcases h.2 with h2 | ⟨g,cap,cur,rfl,hb,hh,hr⟩
  ·exact .inl h2
  ·exact .inr ⟨g,cap,cur,rfl,hb,(hk g rfl).trans hh,hr⟩
structure Ctx where
 w0:World
 G0:Ghost
 M:Nat→Prop
structure St (c:Ctx) (G:Ghost) (H:List Res) (w:World):Prop where
 os:w.os=c.w0.os
 tape:w.tape=c.w0.tape
 output:w.output=c.w0.output
 size:c.w0.heap.size≤w.heap.size
 old:∀ k,k<c.w0.heap.size→¬ c.M k→w.heap[k]?=c.w0.heap[k]?
 le:c.G0.le G
 new:∀ k o,G k=some o→c.G0 k=some o∨c.w0.heap.size≤k
 ghost:∀ k o,G k=some o→w.heap[k]?=some o
 hold:∀ r∈H,r.holds w
 off:∀ r∈H,∀ k,r.foot k→G k=none∧(c.w0.heap.size≤k∨c.M k)
 apart:H.Pairwise fun r s=>∀ k,r.foot k→¬ s.foot k
 drn:c.w0.drawn≤w.drawn
section
variable {c:Ctx} {G G':Ghost} {H H':List Res} {w w':World}
theorem St.ghost_lt (h:St c G H w) {k:Nat} {o:Obj} (hk:G k=some o):k<w.heap.size:=Dk (h.ghost k o hk)
theorem St.ghost_none (h:St c G H w) {k:Nat} (hk:w.heap.size≤k):G k=none:=by
 cases hg:G k with
 | none=>rfl
 | some o=>exact absurd (h.ghost_lt hg) Dz
theorem St.cell (h:St c G H w) {a:Addr} {v:Value} (hv:Ft G a=some v):w.cell? a=some v:=by
 unfold Ft at hv
 unfold World.cell?
 cases hb:G a.block with
 | none=>rw [hb] at hv;cases hv
 | some o=>rw [hb] at hv;rw [h.ghost _ _ hb];exact hv
theorem St.drew (h:St c G H w):St c G H { w with drawn:=w.drawn+1 } :=
 ⟨h.os,h.tape,h.output,h.size,h.old,h.le,h.new,h.ghost,h.hold,h.off,h.apart,Nat.le_succ_of_le h.drn⟩
theorem St.step {H1 H2:List Res} (h:St c G (H1++H) w) (hos:w'.os=w.os) (htape:w'.tape=w.tape) (hout:w'.output=w.output) (hsize:w.heap.size≤w'.heap.size)
  (hkeep:∀ k,k<w.heap.size→(∀ r∈H1,¬ r.foot k)→w'.heap[k]?=w.heap[k]?)
  (hle:G.le G') (hnew:∀ k o,G' k=some o→G k=some o∨w.heap.size≤k) (hghost:∀ k o,G' k=some o→w.heap.size≤k→w'.heap[k]?=some o)
  (hhold:∀ r∈H2,r.holds w') (hoff:∀ r∈H2,∀ k,r.foot k→G' k=none∧(w.heap.size≤k∨∃ s∈H1,s.foot k))
  (hapart:H2.Pairwise fun r s=>∀ k,r.foot k→¬ s.foot k) (hdr:w.drawn≤w'.drawn:=by first|exact Nat.le_refl _|assumption|simp):St c G' (H2++H) w':=by
 have hpw:=List.pairwise_append.1 h.apart
 have hfar:∀ r∈H,∀ k,r.foot k→k<w.heap.size∧w'.heap[k]?=w.heap[k]?:=fun r hr k hk=>by
  have hlt:=Res.lt (h.hold r (List.mem_append_right _ hr)) hk
  exact ⟨hlt,hkeep k hlt fun s hs hsk=>hpw.2.2 s hs r hr k hsk hk⟩
 refine ⟨hos.trans h.os,htape.trans h.tape,hout.trans h.output,Nat.le_trans h.size hsize,fun k hk hM=>?_,h.le.trans hle,fun k o hk=>?_,fun k o hk=>?_,fun r hr=>?_,fun r hr k hk=>?_,?_,Nat.le_trans h.drn hdr⟩
 ·rw [hkeep k (Nat.lt_of_lt_of_le hk h.size) fun r hr hrk=>?_]
  ·exact h.old k hk hM
  ·rcases (h.off r (List.mem_append_left _ hr) k hrk).2 with h1 | h1
   ·omega
   ·exact hM h1
 ·rcases hnew k o hk with h1 | h1
  ·exact h.new k o h1
  ·exact .inr (Nat.le_trans h.size h1)
 ·rcases Nat.lt_or_ge k w.heap.size with hlt | hge
  ·rcases hnew k o hk with h1 | h1
   ·rw [hkeep k hlt fun r hr hrk=>?_]
    ·exact h.ghost k o h1
    ·have:=(h.off r (List.mem_append_left _ hr) k hrk).1
     rw [h1] at this;cases this
   ·omega
  ·exact hghost k o hk hge
 ·rcases List.mem_append.1 hr with hr | hr
  ·exact hhold r hr
  ·exact Res.keep (h.hold r (List.mem_append_right _ hr)) fun k hk=>(hfar r hr k hk).2
 ·rcases List.mem_append.1 hr with hr | hr
  ·obtain ⟨h1,h2⟩:=hoff r hr k hk
   refine ⟨h1,?_⟩
   rcases h2 with h2 | ⟨s,hs,hsk⟩
   ·exact .inl (Nat.le_trans h.size h2)
   ·exact (h.off s (List.mem_append_left _ hs) k hsk).2
  ·obtain ⟨h1,h2⟩:=h.off r (List.mem_append_right _ hr) k hk
   refine ⟨?_,h2⟩
   cases hg:G' k with
   | none=>rfl
   | some o =>
    rcases hnew k o hg with h3 | h3
    ·rw [h1] at h3;cases h3
    ·exact absurd (hfar r hr k hk).1 Dz
 ·refine List.pairwise_append.2 ⟨hapart,hpw.2.1,fun r hr s hs k hk hsk=>?_⟩
  obtain ⟨_,h2⟩:=hoff r hr k hk
  rcases h2 with h2 | ⟨q,hq,hqk⟩
  ·exact absurd (hfar s hs k hsk).1 Dz
  ·exact hpw.2.2 q hq s hs k hqk hsk
theorem Xf {α:Type}:∀ {H:List α} (i:Nat) {r:α},H[i]?=some r→(r::H.eraseIdx i).Perm H
 | [],_,_,h=>by cases h
 | a::H,0,r,h=>by
  obtain rfl:a=r:=by simpa using h
  exact List.Perm.refl _
 | a::H,i+1,r,h=>(List.Perm.swap a r _).trans ((Xf i bT).cons a)
theorem St.front (i:Nat) {r:Res} (h:St c G H w) (hi:H[i]?=some r) (hH:r::H.eraseIdx i=H'):St c G H' w:=by
 subst hH
 have hp:(r::H.eraseIdx i).Perm H:=by
  exact Xf i hi
 refine ⟨h.os,h.tape,h.output,h.size,h.old,h.le,h.new,h.ghost,fun s hs=>h.hold s (hp.mem_iff.1 hs),fun s hs=>h.off s (hp.mem_iff.1 hs),?_,h.drn⟩
 exact (hp.pairwise_iff (fun {a b} hab k hk hk'=>hab k hk' hk)).2 h.apart
theorem St.drop {r:Res} (h:St c G (r::H) w):St c G H w :=
 ⟨h.os,h.tape,h.output,h.size,h.old,h.le,h.new,h.ghost,fun s hs=>h.hold s (List.mem_cons_of_mem _ hs),fun s hs=>h.off s (List.mem_cons_of_mem _ hs),h.apart.of_cons,h.drn⟩
theorem St.alloc (h:St c G H w) (o:Obj) {r:Res} (hr:r.holds (w.alloc o)) (hf:∀ k,r.foot k→k=w.heap.size):St c G (r::H) (w.alloc o):=by
 refine St.step (w:=w) (H1:=[]) (H2:=[r]) (G':=G) (w':=w.alloc o) bT rfl rfl rfl Dr (fun k hk _=>Below.heap_alloc w o k hk) (Ghost.le.refl G) (fun k o hk=>.inl hk) (fun k o hk hge=>by rw [h.ghost_none hge] at hk;cases hk) ?_ ?_ Dr
 ·intro s hs;obtain rfl:s=r:=by simpa using hs
  exact hr
 ·intro s hs k hk;obtain rfl:s=r:=by simpa using hs
  have:=hf k hk
  subst this
  exact ⟨h.ghost_none (Nat.le_refl _),.inl (Nat.le_refl _)⟩
theorem St.write {r r':Res} (h:St c G (r::H) w) (hos:w'.os=w.os) (htape:w'.tape=w.tape) (hout:w'.output=w.output) (hsize:w.heap.size≤w'.heap.size)
  (hkeep:∀ k,k<w.heap.size→¬ r.foot k→w'.heap[k]?=w.heap[k]?) (hr:r'.holds w') (hf:∀ k,r'.foot k→r.foot k∨w.heap.size≤k) (hdr:w.drawn≤w'.drawn:=by first|exact Nat.le_refl _|assumption|simp):St c G (r'::H) w':=by
 refine St.step (H1:=[r]) (H2:=[r']) (G':=G) bT hos htape hout hsize (fun k hk hk'=>hkeep k hk (hk' r Dr)) (Ghost.le.refl G) (fun k o hk=>.inl hk) (fun k o hk hge=>by rw [h.ghost_none hge] at hk;cases hk) ?_ ?_ Dr
 ·intro s hs;obtain rfl:s=r':=by simpa using hs
  exact hr
 ·intro s hs k hk;obtain rfl:s=r':=by simpa using hs
  rcases hf k hk with h1 | h1
  ·exact ⟨(h.off r Dr k h1).1,.inr ⟨r,by simp,h1⟩⟩
  ·exact ⟨h.ghost_none h1,.inl h1⟩
theorem St.weak (h:St c G' H' w) (h0:c.G0.le G) (hG:G.le G') (hH:H.Sublist H'):St c G H w :=
 ⟨h.os,h.tape,h.output,h.size,h.old,h0,fun k o hk=>h.new k o (hG k o hk),fun k o hk=>h.ghost k o (hG k o hk),fun r hr=>h.hold r (hH.subset hr),
  fun r hr k hk=>by
   obtain ⟨h1,h2⟩:=h.off r (hH.subset hr) k hk
   refine ⟨?_,h2⟩
   cases hg:G k with
   | none=>rfl
   | some o=>(rw [hG k o hg] at h1;cases h1)
  ,h.apart.sublist hH,h.drn⟩
theorem St.done (h:St c G H w):St c G [] w:=h.weak h.le (Ghost.le.refl G) (List.nil_sublist _)
theorem St.nilRow (h:St c G H w) (e k:Nat):St c G (.row e k (.slice none 0 0) 0 []::H) w :=
 ⟨h.os,h.tape,h.output,h.size,h.old,h.le,h.new,h.ghost,fun r hr=>by
   rcases List.mem_cons.1 hr with rfl | hr
   ·exact World.ownsRow_nil w 0 e k
   ·exact h.hold r hr,fun r hr j hj=>by
   rcases List.mem_cons.1 hr with rfl | hr
   ·cases hj
   ·exact h.off r hr j hj,List.pairwise_cons.2 ⟨fun s _ k hk=>(by cases hk),h.apart⟩,h.drn⟩
open Classical in
theorem St.freeze {r:Res} (h:St c G (r::H) w) (hM:∀ k,r.foot k→¬ c.M k) :
  ∃ G',G.le G'∧(∀ k,r.foot k→G' k=w.heap[k]?)∧St c G' H w:=by
 refine ⟨fun k=>if r.foot k then w.heap[k]? else G k,fun k o hk=>?_,fun k hk=>by simp [hk],?_⟩
 ·have:¬ r.foot k:=fun hf=>by
   have:=(h.off r Dr k hf).1
   rw [hk] at this;cases this
  simpa [this] using hk
 ·have hpw:=List.pairwise_cons.1 h.apart
  refine ⟨h.os,h.tape,h.output,h.size,h.old,fun k o hk=>?_,fun k o hk=>?_,fun k o hk=>?_,fun s hs=>h.hold s (by simp [hs]),fun s hs k hk=>?_,hpw.2,h.drn⟩
  ·have hg:=h.le k o hk
   have:¬ r.foot k:=fun hf=>by
    have:=(h.off r Dr k hf).1
    rw [hg] at this;cases this
   simpa [this] using hg
  ·by_cases hf:r.foot k
   ·rcases (h.off r Dr k hf).2 with h1 | h1
    ·exact .inr h1
    ·exact absurd h1 (hM k hf)
   ·simp [hf] at hk;exact h.new k o hk
  ·by_cases hf:r.foot k
   ·simpa [hf] using hk
   ·simp [hf] at hk;exact h.ghost k o hk
  ·have hnf:¬ r.foot k:=fun hf=>hpw.1 s hs k hf hk
   simp only [hnf,if_false]
   exact h.off s (by simp [hs]) k hk
end
section
variable {x:Cx} {ops:Array Oper} {Q:Exit→Env→World→Prop} {E:Env} {w:World} {c:Ctx} {G G':Ghost} {H H':List Res}
theorem Bc {id:Nat} {l:List Oper} (pre:List Nat) (_hs:St c G H w) (hm:eF x.P x.N l.toArray=true)
  (h:A x l.toArray pre (St c G H) Q l.length (Array.replicate l.length false) E { w with drawn:=w.drawn+1 }):T x (.region id l.toArray true) Q E w:=uD pre _ hm h
theorem Am {pre:List Nat} {fuel:Nat} {listed:Array Bool} (_hs:St c G' H' w) (h0:c.G0.le G) (hG:G.le G') (hH:H.Sublist H') (h:A x ops pre (St c G' H') Q fuel listed E w):St c G H w∧A x ops pre (St c G H) Q fuel listed E w :=
 ⟨_hs.weak h0 hG hH,A_more _ (fun _ h=>h.weak h0 hG hH) h⟩
end
def Sl (G:Ghost) (v:Value) (k n:Nat) (xs:List Value):Prop :=
 ∃ A c,v=.slice A n c∧xs.length=n*k∧n≤c∧c≤maxLen∧(0<n→∃ a,A=some a∧∀ j u,xs[j]?=some u→Ft G (a.add j)=some u)
theorem Sl.mono {G G':Ghost} (h:G.le G') {v:Value} {k n:Nat} {xs:List Value} (hs:Sl G v k n xs):Sl G' v k n xs:=by
 obtain ⟨A,c,h1,h2,h3,h4,h5⟩:=hs
 refine ⟨A,c,h1,h2,h3,h4,fun hn=>?_⟩
 obtain ⟨a,ha,hc⟩:=h5 hn
 exact ⟨a,ha,fun j u hj=>Kb h (hc j u hj)⟩
theorem Sl.nil (G:Ghost) (k:Nat):Sl G (.slice none 0 0) k 0 []:=⟨none,0,rfl,by simp,Nat.le_refl _,Nat.zero_le _,fun h=>absurd h Dz⟩
theorem Sl.len {G:Ghost} {v:Value} {k n:Nat} {xs:List Value} (h:Sl G v k n xs):xs.length=n*k:=by obtain ⟨_,_,_,h,_⟩:=h;exact h
theorem Ri (a:Addr) (i j:Nat):(a.add i).add j=a.add (i+j):=by
 unfold Addr.add
 by_cases hi:i=0<;>by_cases hj:j=0<;>simp [hi,hj,Nat.add_assoc]
theorem Xg (a:Addr) (i:Nat):(a.add i).block=a.block:=by
 unfold Addr.add;split<;>rfl
theorem Sl.of_row {G:Ghost} {w:World} {e:TypeId} {k n:Nat} {v:Value} {xs:List Value} (h:w.ownsRow 0 e k v n xs) (hG:∀ b,v.ownBlock=some b→G b=w.heap[b]?):Sl G v k n xs:=by
 rcases h.2 with ⟨rfl,rfl⟩ | ⟨g,cap,cur,rfl,_,hh,hnc,hcm,hsz,htake⟩
 ·have:xs=[]:=List.eq_nil_of_length_eq_zero (by simpa using h.1)
  subst this
  exact Sl.nil G k
 ·refine ⟨some ⟨g,0,none⟩,cap,rfl,h.1,hnc,hcm,fun _=>⟨_,rfl,fun j u hj=>?_⟩⟩
  have hg:=(hG g rfl).trans hh
  unfold Ft
  rw [Xg,hg]
  have hadd:((⟨g,0,none⟩:Addr).add j).off=j∧((⟨g,0,none⟩:Addr).add j).spot=none:=by
   unfold Addr.add;split
   ·rename_i h0;subst h0;exact ⟨rfl,rfl⟩
   ·exact ⟨by simp,rfl⟩
  simp only [hadd.1,hadd.2,Option.isSome_none,Bool.false_eq_true,if_false]
  rw [← htake] at hj
  have hjl:j<n*k:=by
   rcases Nat.lt_or_ge j (n*k) with h' | h'
   ·exact h'
   ·rw [List.getElem?_eq_none Nj] at hj;cases hj
  rw [List.getElem?_take_of_lt hjl] at hj
  simpa using hj
def Bl (H:List Res):Nat→Prop:=fun k=>∃ r∈H,r.foot k
def Ai (P:Program) (f:FuncId) (args:List Value) (G:Ghost) (H:List Res) (R:Value→Ghost→List Res→Prop):Prop :=
 ∀ w,St ⟨w,G,Bl H⟩ G H w→Calls P f args.toArray w fun e w'=>∃ v G' H',e=.returned v∧St ⟨w,G,Bl H⟩ G' H' w'∧R v G' H'
theorem Ai.mono {P:Program} {f:FuncId} {args:List Value} {G:Ghost} {H:List Res} {R R':Value→Ghost→List Res→Prop} (h:Ai P f args G H R)
  (hr:∀ v G' H',G.le G'→R v G' H'→R' v G' H'):Ai P f args G H R':=fun w hw =>
 (h w hw).mono fun _ _ ⟨v,G',H',he,hs,hR⟩=>⟨v,G',H',he,hs,hr v G' H' hs.le hR⟩
theorem Ai.call {P:Program} {f:FuncId} {args:List Value} {G:Ghost} {H1 H:List Res} {R:Value→Ghost→List Res→Prop} (h:Ai P f args G H1 R) {c:Ctx} {w:World} (hs:St c G (H1++H) w) :
  Calls P f args.toArray w fun e w'=>∃ v G' H',e=.returned v∧G.le G'∧St c G' (H'++H) w'∧R v G' H':=by
 have hpw:=List.pairwise_append.1 hs.apart
 have h0:St ⟨w,G,Bl H1⟩ G H1 w:=⟨rfl,rfl,rfl,Nat.le_refl _,fun _ _ _=>rfl,Ghost.le.refl G,fun k o hk=>.inl hk,hs.ghost,fun r hr=>hs.hold r (List.mem_append_left _ hr),
  fun r hr k hk=>⟨(hs.off r (List.mem_append_left _ hr) k hk).1,.inr ⟨r,hr,hk⟩⟩,hpw.1,Nat.le_refl _⟩
 refine (h w h0).mono fun e w' ⟨v,G',H',he,h',hR⟩=>⟨v,G',H',he,h'.le,?_,hR⟩
 refine St.step hs h'.os h'.tape h'.output h'.size (fun k hk hk'=>h'.old k hk (fun ⟨r,hr,hrk⟩=>hk' r hr hrk)) h'.le h'.new (fun k o hk _=>h'.ghost k o hk) h'.hold ?_ h'.apart h'.drn
 intro r hr k hk
 obtain ⟨h1,h2⟩:=h'.off r hr k hk
 exact ⟨h1,h2⟩
theorem noM {w:World} {G:Ghost} {v:Value}:∀ b,v.ownBlock=some b→¬ (⟨w,G,Bl []⟩:Ctx).M b:=fun _ _ h=>by
 obtain ⟨r,hr,_⟩:=h
 cases hr
def Rt (P:Program) (N:Nat) (fn:Func) (R:Value→World→Prop):Exit→Env→World→Prop
 | .normal,E,w|.ret,E,w=>E.d=[]∧∃ v,(∀ a,Ag N E a→(results fn a.tmps).run P w=.ok v w)∧R v w
 | _,_,_=>False
def Mu:Nat→List Value→List (Nat×Value)
 | _,[]=>[]
 | i,v::vs=>(i,v)::Mu (i+1) vs
theorem Oy:∀ (vs:List Value) (i t:Nat) (v:Value),Ge (Mu i vs) t=some v→i≤t∧vs[t-i]?=some v
 | [],_,_,_,h=>by cases h
 | u::vs,i,t,v,h=>by
  simp only [Mu,Ge] at h
  cases hb:Nat.beq i t with
  | true =>
   rw [hb] at h
   obtain rfl:=Nat.eq_of_beq_eq_true hb
   simpa using h
  | false =>
   rw [hb] at h
   have hne:=Nat.ne_of_beq_eq_false hb
   obtain ⟨h1,h2⟩:=Oy vs (i+1) t v bT
   refine ⟨by omega,?_⟩
   rw [show t-i=(t-(i+1))+1 by omega]
   simpa using h2
theorem lB {P:Program} {f:FuncId} {fn:Func} {N:Nat} {c:Code} {args:List Value} {w:World} {R:Value→World→Prop} {L:List (Nat×Value)}
  (hf:P.funcs[f]?=some fn) (hb:fn.body=some c) (hN:fn.ntmps=N) (hn:args.length≤N) (hL:Mu 0 args=L)
  (h:T ⟨P,N,none⟩ c (Rt P N fn R) ⟨[],L⟩ w):Calls P f args.toArray w fun e w'=>∃ v,e=.returned v∧R v w':=by
 subst hL
 refine (callsIn_wide (n:=0)).1 (callsIn_of_wp hf hb trivial ?_ rfl)
 have ha:Ag N ⟨[],Mu 0 args⟩ { tmps:=args.toArray++Array.replicate (fn.ntmps-args.toArray.size) undef,defers:=[] }:=by
  refine ⟨by simp [hN];omega,rfl,fun t v ht=>?_⟩
  obtain ⟨_,h2⟩:=Oy args 0 t v ht
  have hlt:t<args.length:=by
   rcases Nat.lt_or_ge t args.length with h' | h'
   ·exact h'
   ·rw [List.getElem?_eq_none Dz] at h2;cases h2
  rw [Array.getElem?_append_left (by simpa using hlt)]
  simpa using h2
 refine wpIn_mono (h _ ha) ?_
 rintro e a' w' ⟨E,hE,hq⟩
 cases e<;>simp only [Rt] at hq<;>try exact hq.elim
 all_goals
  obtain ⟨hd,v,hv,hR⟩:=hq
  exact ⟨hE.defs.trans hd,v,hv a' hE,v,rfl,hR⟩
theorem Ai.of_T {P:Program} {f:FuncId} {fn:Func} {N:Nat} {c:Code} {args:List Value} {G:Ghost} {H:List Res} {R:Value→Ghost→List Res→Prop} (L:List (Nat×Value))
  (hf:P.funcs[f]?=some fn) (hb:fn.body=some c) (hN:fn.ntmps=N) (hn:args.length≤N) (hL:Mu 0 args=L)
  (h:∀ w,St ⟨w,G,Bl H⟩ G H w→T ⟨P,N,none⟩ c (Rt P N fn fun v w'=>∃ G' H',St ⟨w,G,Bl H⟩ G' H' w'∧R v G' H') ⟨[],L⟩ w):Ai P f args G H R:=fun w hw =>
 (lB hf hb hN hn hL (h w hw)).mono fun _ _ ⟨v,he,G',H',hs,hR⟩=>⟨v,G',H',he,hs,hR⟩
theorem lSa {α:Type} (a b:List α):a.Sublist (a++b):=List.sublist_append_left a b
theorem lSr {α:Type} (a:List α):a.Sublist a:=List.Sublist.refl a
theorem gLr (G:Ghost):G.le G:=Ghost.le.refl G
section
variable {x:Cx} {W:World→Prop} {E:Env} {K:Value→Prop} {d:Option Tmp} {ty:TypeId} {pos:String} {aft:Array Edge} {g:Option (Nat×Bool)}
theorem De {o:Oper} {v:Value} (h:∀ a,Ag x.N E a→∀ w,W w→(execOp a.eval o).run x.P w=.ok (.value v) w) (k:K v):Y x W o E K:=⟨v,h,k⟩
theorem Tu {o:Operand} {v:Value} (h:ev E o=some v) (k:K v):Y x W ⟨d,.move o,ty,pos,aft,g⟩ E K :=
 De (v:=v) (fun a ha w _=>by simp [execOp,ha.ev h]) k
theorem gN {o:Operand} {v:Value} (h:ev E o=some v) (k:K v):Y x W ⟨d,.assign o,ty,pos,aft,g⟩ E K :=
 De (v:=v) (fun a ha w _=>by simp [execOp,ha.ev h]) k
theorem Y_pickT {c o p:Operand} {v:Value} (hc:ev E c=some (.bool true)) (h:ev E o=some v) (k:K v):Y x W ⟨d,.pick c o p,ty,pos,aft,g⟩ E K :=
 De (v:=v) (fun a ha w _=>by simp [execOp,ha.ev h,ha.ev hc,asBool]) k
theorem Y_pickF {c o p:Operand} {v:Value} (hc:ev E c=some (.bool false)) (h:ev E p=some v) (k:K v):Y x W ⟨d,.pick c o p,ty,pos,aft,g⟩ E K :=
 De (v:=v) (fun a ha w _=>by simp [execOp,ha.ev h,ha.ev hc,asBool]) k
theorem Fi {o:Operand} {p:Addr} (h:ev E o=some (.pointer (some p))) (k:K (.pointer (some p))):Y x W ⟨d,.nilCheck o,ty,pos,aft,g⟩ E K :=
 De (v:=.pointer (some p)) (fun a ha w _=>by simp [execOp,ha.ev h]) k
theorem Oz {o:Operand} {i:Nat} {vs:Array Value} {v:Value} (h:ev E o=some (.tuple vs)) (hi:vs[i]?=some v) (k:K v):Y x W ⟨d,.extract o i,ty,pos,aft,g⟩ E K :=
 De (v:=v) (fun a ha w _=>by simp [execOp,ha.ev h,Instr.extract,hi]) k
section
variable {xt yt:TypeId} {o p:Operand} {kd:IntKind} {a b:Int}
theorem Gv {op:BinOp} {w:World} {r:Value} (hop:op=.add∨op=.sub∨op=.mul∨op=.and∨op=.or∨op=.xor∨op=.andNot∨op=.quo∨op=.rem∨op=.lss∨op=.leq∨op=.gtr∨op=.geq∨op=.eql∨op=.neq)
  (h:(binOp op xt (.int kd a) (.int kd b)).run x.P w=.ok r w) {f:Act} (ho:f.eval o=.int kd a) (hp:f.eval p=.int kd b) :
  (execOp f.eval ⟨d,.binOp op xt o p yt,ty,pos,aft,g⟩).run x.P w=.ok (.value r) w:=by
 have he:eqGuard op xt o p (.int kd a) (.int kd b)=pure ():=by rcases hop with h|h|h|h|h|h|h|h|h|h|h|h|h|h|h<;>subst h<;>rfl
 simp only [execOp,ho,hp,he]
 simp [h]
theorem lC (h1:ev E o=some (.int kd a)) (h2:ev E p=some (.int kd b)) (k:K (.int kd (kd.wrap (a+b)))):Y x W ⟨d,.binOp .add xt o p yt,ty,pos,aft,g⟩ E K :=
 De (v:=.int kd (kd.wrap (a+b))) (fun f hf w _=>Gv Dr (by simp [binOp,Op.intArith]) (hf.ev h1) (hf.ev h2)) k
theorem uF (h1:ev E o=some (.int kd a)) (h2:ev E p=some (.int kd b)) (k:K (.int kd (kd.wrap (a-b)))):Y x W ⟨d,.binOp .sub xt o p yt,ty,pos,aft,g⟩ E K :=
 De (v:=.int kd (kd.wrap (a-b))) (fun f hf w _=>Gv Dr (by simp [binOp,Op.intArith]) (hf.ev h1) (hf.ev h2)) k
theorem lD (h1:ev E o=some (.int kd a)) (h2:ev E p=some (.int kd b)) (k:K (.int kd (kd.wrap (a*b)))):Y x W ⟨d,.binOp .mul xt o p yt,ty,pos,aft,g⟩ E K :=
 De (v:=.int kd (kd.wrap (a*b))) (fun f hf w _=>Gv Dr (by simp [binOp,Op.intArith]) (hf.ev h1) (hf.ev h2)) k
theorem Gw {n:Int} (h : -9223372036854775808≤n∧n≤9223372036854775807):IntKind.i64.wrap n=n:=by rw [IntKind.wrap_i64];omega
theorem Eb {c:Int} (h1:ev E o=some (.int .i64 a)) (h2:ev E p=some (.int .i64 b)) (hc:a+b=c) (hb : -9223372036854775808≤c∧c≤9223372036854775807) (k:K (.int .i64 c)):Y x W ⟨d,.binOp .add xt o p yt,ty,pos,aft,g⟩ E K :=
 lC h1 h2 (by rw [hc,Gw hb];exact k)
theorem Fc {c:Int} (h1:ev E o=some (.int .i64 a)) (h2:ev E p=some (.int .i64 b)) (hc:a-b=c) (hb : -9223372036854775808≤c∧c≤9223372036854775807) (k:K (.int .i64 c)):Y x W ⟨d,.binOp .sub xt o p yt,ty,pos,aft,g⟩ E K :=
 uF h1 h2 (by rw [hc,Gw hb];exact k)
theorem Xh {c:Int} (h1:ev E o=some (.int .i64 a)) (h2:ev E p=some (.int .i64 b)) (hc:a*b=c) (hb : -9223372036854775808≤c∧c≤9223372036854775807) (k:K (.int .i64 c)):Y x W ⟨d,.binOp .mul xt o p yt,ty,pos,aft,g⟩ E K :=
 lD h1 h2 (by rw [hc,Gw hb];exact k)
theorem No {c:Int} (h1:ev E o=some (.int .i64 a)) (h2:ev E p=some (.int .i64 b)) (ha:0≤a∧a≤9223372036854775807) (hb:0<b) (hc:a / b=c) (k:K (.int .i64 c)):Y x W ⟨d,.binOp .quo xt o p yt,ty,pos,aft,g⟩ E K:=by
 have h3:(0:Int)≤a / b:=Int.ediv_nonneg ha.1 Dz
 have h4:a / b≤a:=Int.ediv_le_self b ha.1
 have e:(IntKind.i64.wrap (a.tdiv b))=c:=by rw [Int.tdiv_eq_ediv_of_nonneg ha.1,Gw Dz,hc]
 exact De (v:=.int .i64 c) (fun f hf w _=>Gv Dr (by simp [binOp,Op.intDiv,show b≠0 by omega,e]) (hf.ev h1) (hf.ev h2)) k
theorem uG {c:Int} (h1:ev E o=some (.int .u8 a)) (h2:ev E p=some (.int .u8 b)) (ha:0≤a∧a≤255) (hb:0<b) (hc:a / b=c) (k:K (.int .u8 c)):Y x W ⟨d,.binOp .quo xt o p yt,ty,pos,aft,g⟩ E K:=by
 have h3:(0:Int)≤a / b:=Int.ediv_nonneg ha.1 Dz
 have h4:a / b≤a:=Int.ediv_le_self b ha.1
 have e:(IntKind.u8.wrap (a.tdiv b))=c:=by rw [Int.tdiv_eq_ediv_of_nonneg ha.1,IntKind.wrap_u8];omega
 exact De (v:=.int .u8 c) (fun f hf w _=>Gv Dr (by simp [binOp,Op.intDiv,show b≠0 by omega,e]) (hf.ev h1) (hf.ev h2)) k
theorem Er {c:Int} (h1:ev E o=some (.int kd a)) (h2:ev E p=some (.int kd b)) (ha:0≤a) (hb:b≠0) (hc:a % b=c) (k:K (.int kd c)):Y x W ⟨d,.binOp .rem xt o p yt,ty,pos,aft,g⟩ E K:=by
 have e:a.tmod b=c:=by rw [Int.tmod_eq_emod_of_nonneg ha,hc]
 exact De (v:=.int kd c) (fun f hf w _=>Gv Dr (by simp [binOp,Op.intDiv,hb,e]) (hf.ev h1) (hf.ev h2)) k
def Px (op:BinOp) (kd:IntKind) (a b:Int):Int :=
 match op with
 | .and=>kd.wrap (BitVec.ofInt kd.bits a &&& BitVec.ofInt kd.bits b).toNat
 | .or=>kd.wrap (BitVec.ofInt kd.bits a ||| BitVec.ofInt kd.bits b).toNat
 | .xor=>kd.wrap (BitVec.ofInt kd.bits a ^^^ BitVec.ofInt kd.bits b).toNat
 | _=>kd.wrap (BitVec.ofInt kd.bits a &&& ~~~BitVec.ofInt kd.bits b).toNat
theorem Xi {op:BinOp} {c:Int} (h1:ev E o=some (.int kd a)) (h2:ev E p=some (.int kd b)) (hop:op=.and∨op=.or∨op=.xor∨op=.andNot) (hc:Px op kd a b=c) (k:K (.int kd c)):Y x W ⟨d,.binOp op xt o p yt,ty,pos,aft,g⟩ E K:=by
 subst hc
 refine De (v:=.int kd (Px op kd a b)) (fun f hf w _=>Gv (by rcases hop with h|h|h|h<;>subst h<;>simp) ?_ (hf.ev h1) (hf.ev h2)) k
 rcases hop with h|h|h|h<;>subst h<;>simp [binOp,Op.intBits,Px]
theorem Y_shl {kd':IntKind} {c:Int} (h1:ev E o=some (.int kd a)) (h2:ev E p=some (.int kd' b)) (hb:0≤b) (hc:kd.wrap (a*2 ^ (min b.toNat kd.bits))=c) (k:K (.int kd c)):Y x W ⟨d,.binOp .shl xt o p yt,ty,pos,aft,g⟩ E K:=by
 refine De (v:=.int kd c) (fun f hf w _=>?_) k
 have he:eqGuard .shl xt o p (.int kd a) (.int kd' b)=pure ():=rfl
 simp only [execOp,hf.ev h1,hf.ev h2,he]
 simp [binOp,Op.shift,show ¬ b<0 by omega,hc]
theorem cN {kd':IntKind} {c:Int} (h1:ev E o=some (.int kd a)) (h2:ev E p=some (.int kd' b)) (hb:0≤b) (hc:a.fdiv (2 ^ (min b.toNat kd.bits))=c) (k:K (.int kd c)):Y x W ⟨d,.binOp .shr xt o p yt,ty,pos,aft,g⟩ E K:=by
 refine De (v:=.int kd c) (fun f hf w _=>?_) k
 have he:eqGuard .shr xt o p (.int kd a) (.int kd' b)=pure ():=rfl
 simp only [execOp,hf.ev h1,hf.ev h2,he]
 simp [binOp,Op.shift,show ¬ b<0 by omega,hc]
@[reducible] def Il (op:BinOp) (a b:Int):Prop :=
 match op with
 | .eql=>a=b|.neq=>a≠b|.lss=>a<b|.leq=>a≤b|.gtr=>b<a|_=>b≤a
def Va:BinOp→Bool
 | .eql|.neq|.lss|.leq|.gtr|.geq=>true
 | _=>false
theorem Qi {op:BinOp} {t:Bool} (h1:ev E o=some (.int kd a)) (h2:ev E p=some (.int kd b)) (hop:Va op=true) (ht:Il op a b↔t=true) (k:K (.bool t)):Y x W ⟨d,.binOp op xt o p yt,ty,pos,aft,g⟩ E K:=by
 refine De (v:=.bool t) (fun f hf w _=>Gv ?_ ?_ (hf.ev h1) (hf.ev h2)) k
 ·cases op<;>simp [Va] at hop<;>simp
 ·cases op<;>simp [Va] at hop<;>simp only [Il] at ht<;>simp [binOp,Op.intCmp]<;>cases t<;>simp_all
theorem Im {op:BinOp} (h1:ev E o=some (.int kd a)) (h2:ev E p=some (.int kd b)) (hop:Va op=true) (ht:Il op a b) (k:K (.bool true)):Y x W ⟨d,.binOp op xt o p yt,ty,pos,aft,g⟩ E K :=
 Qi h1 h2 hop (by simp [ht]) k
theorem Di {op:BinOp} (h1:ev E o=some (.int kd a)) (h2:ev E p=some (.int kd b)) (hop:Va op=true) (ht:¬ Il op a b) (k:K (.bool false)):Y x W ⟨d,.binOp op xt o p yt,ty,pos,aft,g⟩ E K :=
 Qi h1 h2 hop (by simp [ht]) k
theorem Nr {op:BinOp} (h1:ev E o=some (.int kd a)) (h2:ev E p=some (.int kd b)) (hop:Va op=true) (hT:Il op a b→K (.bool true)) (hF:¬ Il op a b→K (.bool false)):Y x W ⟨d,.binOp op xt o p yt,ty,pos,aft,g⟩ E K:=by
 by_cases h:Il op a b
 ·exact Im h1 h2 hop h (hT h)
 ·exact Di h1 h2 hop h (hF h)
end
theorem Y_not {o:Operand} {t:Bool} {xt:TypeId} (h:ev E o=some (.bool t)) (k:K (.bool !t)):Y x W ⟨d,.unOp .not xt o,ty,pos,aft,g⟩ E K :=
 De (v:=.bool !t) (fun a ha w _=>by simp [execOp,ha.ev h,Op.unary]) k
theorem Dj {o:Operand} {src dst:TypeId} {kd kd':IntKind} {n c:Int} {td:TypeDesc} (hs:x.P.underlying src=some td) (hu:x.P.underlying dst=some (.int kd')) (h:ev E o=some (.int kd n)) (hc:kd'.wrap n=c)
  (k:K (.int kd' c)):Y x W ⟨d,.convert src dst o,ty,pos,aft,g⟩ E K :=
 De (v:=.int kd' c) (fun a ha w _=>by
  have h1:(underlying src).run x.P w=.ok td w:=run_underlying hs w
  have h2:(underlying dst).run x.P w=.ok (.int kd') w:=run_underlying hu w
  simp only [execOp,convert,ha.ev h]
  cases td<;>simp [h1,h2,Conv.intToInt,hc]) k
theorem uH {o:Operand} {t e:TypeId} {A:Option Addr} {n c:Nat} (hu:x.P.underlying t=some (.slice e)) (h:ev E o=some (.slice A n c)) (k:K (.int .i64 (n:Int))) :
  Y x W ⟨d,.call { callee:=.builtin .len,args:=#[o],argTypes:=#[t] },ty,pos,aft,g⟩ E K :=
 De (v:=.int .i64 (n:Int)) (fun a ha w _=>by
  simp [execOp,resolve,invoke,builtin,Builtin.len_,ha.ev h,run_underlying hu,goInt]) k
theorem Y_lenS {o:Operand} {t:TypeId} {s:ByteArray} (hu:x.P.underlying t=some .string) (h:ev E o=some (.string s)) (k:K (.int .i64 (s.size:Int))) :
  Y x W ⟨d,.call { callee:=.builtin .len,args:=#[o],argTypes:=#[t] },ty,pos,aft,g⟩ E K :=
 De (v:=.int .i64 (s.size:Int)) (fun a ha w _=>by
  simp [execOp,resolve,invoke,builtin,Builtin.len_,ha.ev h,run_underlying hu,goInt]) k
theorem nN {o p:Operand} {t u:TypeId} {kd:IntKind} {m n c:Int} (h1:ev E o=some (.int kd m)) (h2:ev E p=some (.int kd n)) (hc:min m n=c) (k:K (.int kd c)) :
  Y x W ⟨d,.call { callee:=.builtin .min,args:=#[o,p],argTypes:=#[t,u] },ty,pos,aft,g⟩ E K :=
 De (v:=.int kd c) (fun a ha w _=>by
  have:(if n<m then n else m)=c:=by rw [← hc];split<;>omega
  simp [execOp,resolve,invoke,builtin,Builtin.min_,Builtin.min2,ha.ev h1,ha.ev h2,this]) k
theorem Y_max {o p:Operand} {t u:TypeId} {kd:IntKind} {m n c:Int} (h1:ev E o=some (.int kd m)) (h2:ev E p=some (.int kd n)) (hc:max m n=c) (k:K (.int kd c)) :
  Y x W ⟨d,.call { callee:=.builtin .max,args:=#[o,p],argTypes:=#[t,u] },ty,pos,aft,g⟩ E K :=
 De (v:=.int kd c) (fun a ha w _=>by
  have:(if n>m then n else m)=c:=by rw [← hc];split<;>omega
  simp [execOp,resolve,invoke,builtin,Builtin.max_,Builtin.max2,ha.ev h1,ha.ev h2,this]) k
def Lh (P:Program) (s i:Nat):Option Nat :=
 match P.underlying s with
 | some (.struct fs)=>(fs[i]?).bind fun f=>(P.info? f.type).bind fun t=>if t.size=0 then none else some f.offset
 | _=>none
theorem Vb {o:Operand} {s i b j n:Nat} {m:Nat} (hf:Lh x.P s i=some n) (h:ev E o=some (.pointer (some ⟨b,j,none⟩))) (hm:j+n=m) (k:K (.pointer (some ⟨b,m,none⟩))) :
  Y x W ⟨d,.fieldAddr s o i,ty,pos,aft,g⟩ E K :=
 De (v:=.pointer (some ⟨b,m,none⟩)) (fun a ha w _=>by
  unfold Lh at hf
  cases hu:x.P.underlying s with
  | none=>rw [hu] at hf;cases hf
  | some td =>
   rw [hu] at hf
   cases td with
   | struct fs =>
    simp only at hf
    cases hi:fs[i]? with
    | none=>rw [hi] at hf;cases hf
    | some f =>
     rw [hi] at hf
     simp only [Option.bind_some] at hf
     cases ht:x.P.info? f.type with
     | none=>rw [ht] at hf;cases hf
     | some t =>
      rw [ht] at hf
      simp only [Option.bind_some] at hf
      split at hf
      ·cases hf
      ·rename_i hz
       injection hf with hf
       have hadd:(⟨b,j,none⟩:Addr).add f.offset=⟨b,m,none⟩:=by
        subst hm hf
        unfold Addr.add;split
        ·rename_i h0;simp [h0]
        ·rfl
       simp [execOp,ha.ev h,Instr.fieldAt,Instr.sureAddr,run_underlying hu,hi,fieldPlace,sizeOf,typeInfo,ht,hz,hadd]
   | _=>simp at hf) k
theorem Db {o:Operand} {t e b j:Nat} {c:Ctx} {G:Ghost} {H:List Res} {cs:List Value} {v:Value} (i:Nat) (hA:∀ w,(isAgg t).run x.P w=.ok false w) (h:ev E o=some (.pointer (some ⟨b,j,none⟩)))
  (hi:H[i]?=some (.blk b e cs)) (hj:cs[j]?=some v) (k:K v):Y x (St c G H) ⟨d,.load t o,ty,pos,aft,g⟩ E K :=
 De (v:=v) (fun a ha w hw=>by
  have hb:w.heap[b]?=some (.cells cs.toArray e (0,0)):=hw.hold _ (List.mem_of_getElem? hi)
  have hc:w.cell? ⟨b,j,none⟩=some v:=by simp [World.cell?,hb,hj]
  simp [execOp,ha.ev h,Instr.loadAt,Instr.sureAddr,loadVar,hA w,hc]) k
theorem Y_ldG {o:Operand} {t:Nat} {p:Addr} {c:Ctx} {G:Ghost} {H:List Res} {v:Value} (hA:∀ w,(isAgg t).run x.P w=.ok false w) (h:ev E o=some (.pointer (some p)))
  (hp:Ft G p=some v) (k:K v):Y x (St c G H) ⟨d,.load t o,ty,pos,aft,g⟩ E K :=
 De (v:=v) (fun a ha w hw=>by
  have hc:=hw.cell hp
  simp [execOp,ha.ev h,Instr.loadAt,Instr.sureAddr,loadVar,hA w,hc]) k
theorem Hj {P:Program} {t n:Nat} {p:Addr} {cs:List Value} {w:World} (hA:(isAgg t).run P w=.ok true w) (hS:(sizeOf t).run P w=.ok n w) (hn:cs.length=n)
  (hc:∀ j u,cs[j]?=some u→w.cell? (p.add j)=some u):(loadVar t p).run P w=.ok (.agg cs.toArray) w:=by
 subst hn
 have:=run_loadCells_list (P:=P) w p cs hc
 simp [loadVar,hA,hS,this]
theorem Gl {o:Operand} {t e b j n:Nat} {c:Ctx} {G:Ghost} {H:List Res} {cs vs:List Value} (i:Nat) (hA:∀ w,(isAgg t).run x.P w=.ok true w) (hS:∀ w,(sizeOf t).run x.P w=.ok n w) (h:ev E o=some (.pointer (some ⟨b,j,none⟩)))
  (hi:H[i]?=some (.blk b e cs)) (hv:(cs.drop j).take n=vs) (hn:vs.length=n) (k:K (.agg vs.toArray)):Y x (St c G H) ⟨d,.load t o,ty,pos,aft,g⟩ E K :=
 De (v:=.agg vs.toArray) (fun a ha w hw=>by
  have hb:w.heap[b]?=some (.cells cs.toArray e (0,0)):=hw.hold _ (List.mem_of_getElem? hi)
  have hl:=Hj (P:=x.P) (t:=t) (p:=⟨b,j,none⟩) (hA w) (hS w) hn (fun q u hq=>by
   have hadd:((⟨b,j,none⟩:Addr).add q)=⟨b,j+q,none⟩:=by
    unfold Addr.add;split
    ·rename_i h0;simp [h0]
    ·rfl
   have hqn:q<n:=by
    rcases Nat.lt_or_ge q n with h' | h'
    ·exact h'
    ·rw [List.getElem?_eq_none Dz] at hq;cases hq
   rw [← hv,List.getElem?_take_of_lt hqn,List.getElem?_drop] at hq
   rw [hadd]
   simp [World.cell?,hb,hq])
  simp [execOp,ha.ev h,Instr.loadAt,Instr.sureAddr,hl]) k
theorem Cu {o:Operand} {t n:Nat} {p:Addr} {c:Ctx} {G:Ghost} {H:List Res} {vs:List Value} (hA:∀ w,(isAgg t).run x.P w=.ok true w) (hS:∀ w,(sizeOf t).run x.P w=.ok n w) (h:ev E o=some (.pointer (some p)))
  (hp:∀ j u,vs[j]?=some u→Ft G (p.add j)=some u) (hn:vs.length=n) (k:K (.agg vs.toArray)):Y x (St c G H) ⟨d,.load t o,ty,pos,aft,g⟩ E K :=
 De (v:=.agg vs.toArray) (fun a ha w hw=>by
  have hl:=Hj (P:=x.P) (t:=t) (p:=p) (hA w) (hS w) hn (fun q u hq=>hw.cell (hp q u hq))
  simp [execOp,ha.ev h,Instr.loadAt,Instr.sureAddr,hl]) k
theorem Y_idx {o q:Operand} {t e:TypeId} {kd:IntKind} {n s:Nat} {j:Int} {v:Value} {xs:List Value} {G:Ghost} (i:Nat) (hu:x.P.underlying t=some (.slice e)) (hs:∀ w,(sizeOf e).run x.P w=.ok s w)
  (hS:Sl G v s n xs) (h1:ev E o=some v) (h2:ev E q=some (.int kd j)) (hj:j=(i:Int)) (hlt:i<n)
  (k:∀ p,(∀ r u,xs[i*s+r]?=some u→Ft G (p.add r)=some u)→K (.pointer (some p))):Y x W ⟨d,.indexAddr t o q,ty,pos,aft,g⟩ E K:=by
 obtain ⟨A,c,rfl,_,_,_,hA⟩:=hS
 obtain ⟨a,rfl,hc⟩:=hA Dz
 subst hj
 refine De (v:=.pointer (some (a.add (i*s)))) (fun f hf w _=>?_) (k _ fun r u hr=>by rw [Ri];exact hc _ u hr)
 simp [execOp,hf.ev h1,hf.ev h2,Instr.indexAt,asIntOf,run_underlying hu,hs w,hlt]
theorem uI {G:Ghost} {A:Option Addr} {s n c l h:Nat} {xs:List Value} (hS:Sl G (.slice A n c) s n xs) (hl:l≤h) (hh:h≤n) :
  Sl G (.slice (if c=l then A else A.map (·.add (l*s))) (h-l) (c-l)) s (h-l) ((xs.drop (l*s)).take ((h-l)*s)):=by
 obtain ⟨A',c',he,h1,h2,h3,h4⟩:=hS
 injection he with e1 _ e3
 subst e1 e3
 have hmul:l*s+(h-l)*s=h*s:=by rw [← Nat.add_mul];congr 1;omega
 have hle:h*s≤n*s:=Nat.mul_le_mul_right _ hh
 refine ⟨_,_,rfl,?_,by omega,by omega,fun hn=>?_⟩
 ·rw [List.length_take,List.length_drop,h1];omega
 ·obtain ⟨a,rfl,hc⟩:=h4 Dz
  rw [if_neg Dz]
  refine ⟨a.add (l*s),rfl,fun j u hj=>?_⟩
  rw [Ri]
  have hjl:j<(h-l)*s:=by
   rcases Nat.lt_or_ge j ((h-l)*s) with h' | h'
   ·exact h'
   ·rw [List.getElem?_eq_none (by rw [List.length_take];omega)] at hj;cases hj
  rw [List.getElem?_take_of_lt hjl,List.getElem?_drop] at hj
  exact hc _ u hj
def bnd (E:Env) (o:Option Operand) (dflt n:Nat):Prop :=
 match o with
 | none=>n=dflt
 | some q=>∃ kd j,ev E q=some (.int kd j)∧j=(n:Int)
theorem Y_slice {o:Operand} {lo hi:Option Operand} {t e:TypeId} {n s:Nat} {v:Value} {xs:List Value} {G:Ghost} (l h:Nat) (hu:x.P.underlying t=some (.slice e)) (hs:∀ w,(sizeOf e).run x.P w=.ok s w)
  (hS:Sl G v s n xs) (h1:ev E o=some v) (hlo:bnd E lo 0 l) (hhi:bnd E hi n h) (hl:l≤h) (hh:h≤n)
  (k:∀ v',Sl G v' s (h-l) ((xs.drop (l*s)).take ((h-l)*s))→K v'):Y x W ⟨d,.slice t o lo hi none,ty,pos,aft,g⟩ E K:=by
 have hS':=hS
 obtain ⟨A,c,rfl,_,hnc,_,_⟩:=hS'
 refine De (v:=.slice (if c=l then A else A.map (·.add (l*s))) (h-l) (c-l)) (fun f hf w _=>?_) (k _ (uI hS hl hh))
 have b1:h≤c:=by omega
 cases lo with
 | none =>
  obtain rfl:l=0:=hlo
  cases hi with
  | none =>
   obtain rfl:h=n:=hhi
   simp [execOp,hf.ev h1,Instr.sliceAt,Instr.slice,Instr.sliceBounds,run_underlying hu,hs w]
  | some q =>
   obtain ⟨kd,j,hq,rfl⟩:=hhi
   simp [execOp,hf.ev h1,hf.ev hq,Instr.sliceAt,Instr.slice,Instr.sliceBounds,Instr.sliceBound,asIntOf,run_underlying hu,hs w,b1]
 | some q =>
  obtain ⟨kd,j,hq,rfl⟩:=hlo
  cases hi with
  | none =>
   obtain rfl:h=n:=hhi
   simp [execOp,hf.ev h1,hf.ev hq,Instr.sliceAt,Instr.slice,Instr.sliceBounds,Instr.sliceBound,asIntOf,run_underlying hu,hs w,hl]
  | some q' =>
   obtain ⟨kd',j',hq',rfl⟩:=hhi
   simp [execOp,hf.ev h1,hf.ev hq,hf.ev hq',Instr.sliceAt,Instr.slice,Instr.sliceBounds,Instr.sliceBound,asIntOf,run_underlying hu,hs w,b1,hl]
end
theorem Jm {x:Cx} {o:Oper} {Q:Exit→Env→World→Prop} {K:Value→World→Prop} {E:Env} {w:World} (hd:Iv o.op=true)
  (h:∀ a,Ag x.N E a→∃ v w',(execOp a.eval o).run x.P w=.ok (.value v) w'∧K v w'):S x o Q K E w:=by
 intro a ha next hn
 obtain ⟨v,w',hr,hK⟩:=h a ha
 refine ⟨fun _ _=>trivial,?_⟩
 rw [Oper.semAt_eq _ _ _ (fun c hc=>by rw [hc] at hd;cases hd),hr]
 exact hn _ _ hK
theorem Xj {x:Cx} {o:Oper} {Q:Exit→Env→World→Prop} {K:Value→World→Prop} {E:Env} {w:World} (hd:Iv o.op=true)
  (h:∀ a,Ag x.N E a→∃ w',(execOp a.eval o).run x.P w=.ok .skip w'∧K undef w'):S x o Q K E w:=by
 intro a ha next hn
 obtain ⟨w',hr,hK⟩:=h a ha
 refine ⟨fun _ _=>trivial,?_⟩
 rw [Oper.semAt_eq _ _ _ (fun c hc=>by rw [hc] at hd;cases hd),hr]
 exact hn _ _ hK
section
variable {x:Cx} {Q:Exit→Env→World→Prop} {E:Env} {K:Value→World→Prop} {w:World} {d:Option Tmp} {ty:TypeId} {pos:String} {aft:Array Edge} {g:Option (Nat×Bool)}
 {c:Ctx} {G:Ghost} {H:List Res}
theorem Bd {e:TypeId} {z:Value} {cs:List Value} (hs:St c G H w) (hz:∀ w,(zeroValue e).run x.P w=.ok z w) (hc:z.cells.toList=cs)
  (k:∀ b w',St c G (.blk b e cs::H) w'→K (.pointer (some ⟨b,0,none⟩)) w'):S x ⟨d,.alloc e,ty,pos,aft,g⟩ Q K E w:=by
 subst hc
 refine Jm rfl fun a _=>⟨.pointer (some ⟨w.heap.size,0,none⟩),w.alloc (.cells z.cells e),?_,k _ _ (hs.alloc _ ?_ (fun k hk=>hk))⟩
 ·simp [execOp,Instr.alloc,hz w,newVar,newRow]
 ·show (w.alloc _).heap[w.heap.size]?=_
  rw [heap_alloc_new]
theorem Dw {e:TypeId} {o:Operand} {v:Value} {cs:List Value} (hs:St c G H w) (hv:ev E o=some v) (hc:v.cells.toList=cs)
  (k:∀ b w',St c G (.blk b e cs::H) w'→K (.pointer (some ⟨b,0,none⟩)) w'):S x ⟨d,.box e o,ty,pos,aft,g⟩ Q K E w:=by
 subst hc
 refine Jm rfl fun a ha=>⟨.pointer (some ⟨w.heap.size,0,none⟩),w.alloc (.cells v.cells e),?_,k _ _ (hs.alloc _ ?_ (fun k hk=>hk))⟩
 ·simp [execOp,Instr.box,ha.ev hv,newVar,newRow]
 ·show (w.alloc _).heap[w.heap.size]?=_
  rw [heap_alloc_new]
theorem nO {cs:List Value} {b e j:Nat} {v:Value} (h:w.heap[b]?=some (.cells cs.toArray e (0,0))):(w.setCell ⟨b,j,none⟩ v).heap[b]?=some (.cells (cs.set j v).toArray e (0,0)):=by
 simp [World.setCell,Array.getElem?_modify,h]
theorem Hs {o p:Operand} {t b j e:Nat} {v:Value} {cs cs':List Value} (hs:St c G (.blk b e cs::H) w) (hS:∀ w,(sizeOf t).run x.P w=.ok 1 w) (h1:ev E o=some (.pointer (some ⟨b,j,none⟩))) (h2:ev E p=some v)
  (hone:v.oneCell'=true) (hj:j<cs.length) (hc:cs.set j v=cs') (k:∀ w',St c G (.blk b e cs'::H) w'→K undef w'):S x ⟨d,.store t o p,ty,pos,aft,g⟩ Q K E w:=by
 subst hc
 have hb:w.heap[b]?=some (.cells cs.toArray e (0,0)):=hs.hold (.blk b e cs) Dr
 have hcell:w.cell? ⟨b,j,none⟩=some cs[j]:=by simp [World.cell?,hb,hj]
 have hfz:w.frozen? ⟨b,j,none⟩=false:=by simp [World.frozen?,hb]
 have hcells:v.cells=#[v]:=by cases v<;>simp [Value.oneCell'] at hone<;>rfl
 refine Xj rfl fun a ha=>⟨w.setCell ⟨b,j,none⟩ v,?_,k _ (hs.write rfl rfl rfl (by simp [World.setCell]) (fun k hk hne=>Below.heap_setCell w _ v k hne) (nO hb) (fun k hk=>.inl hk))⟩
 have hadd:(⟨b,j,none⟩:Addr).add 0=⟨b,j,none⟩:=rfl
 simp [execOp,ha.ev h1,ha.ev h2,Instr.storeAt,Instr.sureAddr,storeVar,hcells,hS w,storeCells,hadd,run_store,hone,hcell,hfz]
theorem Hl {P:Program} {b e j:Nat}:∀ {vs cs:List Value} {i:Nat} {w:World},w.heap[b]?=some (.cells cs.toArray e (0,0))→(∀ v∈vs,v.oneCell'=true)→j+i+vs.length≤cs.length →
  ∃ w',(storeCells ⟨b,j,none⟩ vs i).run P w=.ok () w'∧w'.os=w.os∧w'.tape=w.tape∧w'.output=w.output∧w'.heap.size=w.heap.size∧w'.drawn=w.drawn∧(∀ k,k≠b→w'.heap[k]?=w.heap[k]?) ∧
   w'.heap[b]?=some (.cells (cs.take (j+i)++vs++cs.drop (j+i+vs.length)).toArray e (0,0))
 | [],cs,i,w,hb,_,hl=>⟨w,by simp [storeCells],rfl,rfl,rfl,rfl,rfl,fun _ _=>rfl,by simp [hb]⟩
 | v::vs,cs,i,w,hb,h1,hl=>by
  have hadd:(⟨b,j,none⟩:Addr).add i=⟨b,j+i,none⟩:=by
   unfold Addr.add;split
   ·rename_i h0;simp [h0]
   ·rfl
  simp only [List.length_cons] at hl
  have hji:j+i<cs.length:=by omega
  have hcell:w.cell? ⟨b,j+i,none⟩=some cs[j+i]:=by simp [World.cell?,hb,hji]
  have hfz:w.frozen? ⟨b,j+i,none⟩=false:=by simp [World.frozen?,hb]
  have hone:=h1 v List.mem_cons_self
  obtain ⟨w',hr,e1,e2,e3,e4,ed,e5,e6⟩:=Hl (P:=P) (b:=b) (e:=e) (j:=j) (vs:=vs) (cs:=cs.set (j+i) v) (i:=i+1) (nO hb) (fun u hu=>h1 u (List.mem_cons_of_mem _ hu)) Nj
  refine ⟨w',?_,e1,e2,e3,by rw [e4];simp [World.setCell],ed,fun k hk=>by rw [e5 k hk];exact Below.heap_setCell w _ v k hk,?_⟩
  ·simp only [storeCells,Sem.run_bind,hadd]
   rw [run_store _ _ _ _ _ hone,hcell]
   simp [hfz,hr]
  ·rw [e6]
   congr 3
   rw [show j+(i+1)=(j+i)+1 by omega,List.take_succ_eq_append_getElem Nj]
   simp only [List.getElem_set_self,List.take_set,List.append_assoc,List.singleton_append,List.length_cons]
   rw [List.set_eq_of_length_le (by rw [List.length_take];exact Nat.min_le_left _ _),List.drop_set_of_lt Dz]
   congr 3
   omega
theorem Es {o p:Operand} {t b j e n:Nat} {vs cs cs':List Value} (hs:St c G (.blk b e cs::H) w) (hS:∀ w,(sizeOf t).run x.P w=.ok n w) (h1:ev E o=some (.pointer (some ⟨b,j,none⟩))) (h2:ev E p=some (.agg vs.toArray))
  (hn:vs.length=n) (hone:vs.all (·.oneCell')=true) (hj:j+n≤cs.length) (hc:cs.take j++vs++cs.drop (j+n)=cs') (k:∀ w',St c G (.blk b e cs'::H) w'→K undef w'):S x ⟨d,.store t o p,ty,pos,aft,g⟩ Q K E w:=by
 subst hc hn
 have hb:w.heap[b]?=some (.cells cs.toArray e (0,0)):=hs.hold (.blk b e cs) Dr
 obtain ⟨w',hr,e1,e2,e3,e4,ed,e5,e6⟩:=Hl (P:=x.P) (b:=b) (e:=e) (j:=j) (i:=0) (vs:=vs) hb (by simpa using hone) (by simpa using hj)
 refine Xj rfl fun a ha=>⟨w',?_,k _ (hs.write e1 e2 e3 Dz (fun k hk hne=>e5 k hne) (by simpa [Res.holds] using e6) (fun k hk=>.inl hk) (Nat.le_of_eq ed.symm))⟩
 simp [execOp,ha.ev h1,ha.ev h2,Instr.storeAt,Instr.sureAddr,storeVar,Value.cells,hS w,hr]
theorem Xk {e k n:Nat} {cs:List Value} (hl:cs.length=n*k) (hm:n≤maxLen):Res.holds (w.alloc (.cells cs.toArray e)) (.row e k (.slice (some ⟨w.heap.size,0,none⟩) n n) n cs):=by
 refine ⟨hl,.inr ⟨w.heap.size,n,cs.toArray,rfl,Nat.zero_le _,heap_alloc_new w _,Nat.le_refl _,hm,by simpa using hl,?_⟩⟩
 simp [← hl]
def evs (E:Env):List (Nat×Operand)→Option (List (Nat×Value))
 | []=>some []
 | (i,o)::r=>match ev E o,evs E r with
  | some v,some vs=>some ((i,v)::vs)
  | _,_=>none
theorem Ns {N:Nat} {a:Act} (ha:Ag N E a):∀ {ps:List (Nat×Operand)} {vs:List (Nat×Value)},evs E ps=some vs→ps.map (fun p=>(p.1,a.eval p.2))=vs
 | [],vs,h=>by simp [evs] at h;simp [h]
 | (i,o)::r,vs,h=>by
  simp only [evs] at h
  cases h1:ev E o with
  | none=>rw [h1] at h;cases h
  | some v =>
   cases h2:evs E r with
   | none=>rw [h1,h2] at h;cases h
   | some us =>
    rw [h1,h2] at h
    injection h with h
    subst h
    simp [ha.ev h1,Ns ha h2]
def Rj:List Value→Nat→List Value→List Value
 | cs,_,[]=>cs
 | cs,off,v::vs=>Rj (cs.set off v) (off+1) vs
def Hc (place:Nat→Option (Nat×Nat)):List Value→List (Nat×Value)→Option (List Value)
 | cs,[]=>some cs
 | cs,(i,v)::r =>
  match place i with
  | none=>none
  | some (off,size)=>bif Nat.beq v.cells.toList.length size && Nat.ble (off+v.cells.toList.length) cs.length then Hc place (Rj cs off v.cells.toList) r else none
theorem cO (off:Nat):∀ (vs:List Value) (i:Nat) (cs:Array Value),(vs.zipIdx i).foldl (fun cs (c,j)=>cs.setIfInBounds (off+j) c) cs=(Rj cs.toList (off+i) vs).toArray
 | [],_,cs=>by simp [Rj]
 | v::vs,i,cs=>by
  simp only [List.zipIdx_cons,List.foldl_cons,Rj]
  rw [cO off vs (i+1)]
  simp [Nat.add_assoc]
theorem Li {place:Nat→Option (Nat×Nat)}:∀ {ps:List (Nat×Value)} {cs cs':List Value},Hc place cs ps=some cs'→Instr.fill place cs.toArray ps=some cs'.toArray
 | [],cs,cs',h=>by simp [Hc] at h;simp [Instr.fill,h]
 | (i,v)::r,cs,cs',h=>by
  simp only [Hc] at h
  simp only [Instr.fill]
  cases hp:place i with
  | none=>rw [hp] at h;cases h
  | some os =>
   obtain ⟨off,size⟩:=os
   rw [hp] at h
   simp only at h ⊢
   cases hb:(Nat.beq v.cells.toList.length size && Nat.ble (off+v.cells.toList.length) cs.length) with
   | false=>rw [hb] at h;cases h
   | true =>
    rw [hb] at h
    simp only [Bool.and_eq_true,Nat.beq_eq,Nat.ble_eq] at hb
    obtain ⟨h1,h2⟩:=hb
    simp only [Array.length_toList] at h1 h2
    have hc:(v.cells.size != size || decide (off+v.cells.size>cs.toArray.size))=false:=by simp [h1];omega
    have hf:(Array.foldl (fun cs (x:Value×Nat)=>cs.setIfInBounds (off+x.2) x.1) cs.toArray v.cells.zipIdx)=(Rj cs off v.cells.toList).toArray:=by
     rw [← Array.foldl_toList,Array.toList_zipIdx]
     exact cO off _ 0 _
    have:=Li (place:=place) (ps:=r) bT
    simp_all
def places (P:Program) (t:TypeId):Option (List (Nat×Nat)) :=
 match P.underlying t with
 | some (.struct fs)=>fs.toList.mapM fun f=>(P.info? f.type).map fun i=>(f.offset,i.size)
 | _=>none
theorem Vc {P:Program} {w:World}:∀ {fs:List Field} {l:List (Nat×Nat)},fs.mapM (fun f=>(P.info? f.type).map fun i=>(f.offset,i.size))=some l →
  (fs.mapM fun f=>(do pure (f.offset,← sizeOf f.type):Sem (Nat×Nat))).run P w=.ok l w
 | [],l,h=>by simp at h;subst h;simp
 | f::fs,l,h=>by
  simp only [List.mapM_cons] at h
  cases hi:P.info? f.type with
  | none=>rw [hi] at h;simp at h
  | some i =>
   rw [hi] at h
   cases hr:fs.mapM (fun f=>(P.info? f.type).map fun i=>(f.offset,i.size)) with
   | none=>rw [hr] at h;simp at h
   | some l' =>
    rw [hr] at h
    simp at h
    subst h
    have hsz:(sizeOf f.type).run P w=.ok i.size w:=by simp [sizeOf,typeInfo,hi]
    simp only [List.mapM_cons,Sem.run_bind,Result.andThen_ok,Sem.run_pure,hsz,Vc hr]
theorem Ba {W:World→Prop} {K:Value→Prop} {t:TypeId} {ps:List (Nat×Operand)} {z:Value} {zs cs:List Value} {vs:List (Nat×Value)} {pl:List (Nat×Nat)} (hz:∀ w,(zeroValue t).run x.P w=.ok z w) (hzs:z.cells.toList=zs)
  (hp:places x.P t=some pl) (hv:evs E ps=some vs) (hc:Hc (pl[·]?) zs vs=some cs) (k:K (.agg cs.toArray)):Y x W ⟨d,.build t ps.toArray,ty,pos,aft,g⟩ E K:=by
 subst hzs
 refine De (v:=.agg cs.toArray) (fun a ha w _=>?_) k
 have hv':=Ns ha hv
 unfold places at hp
 cases hu:x.P.underlying t with
 | none=>rw [hu] at hp;cases hp
 | some td =>
  rw [hu] at hp
  cases td with
  | struct fs =>
   simp only at hp
   have hm:(fs.mapM fun f=>(do pure (f.offset,← sizeOf f.type):Sem (Nat×Nat))).run x.P w=.ok pl.toArray w:=by
    rw [Array.mapM_eq_mapM_toList,Sem.run_map,Vc hp];rfl
   have hf:=Li hc
   simp only [Array.toArray_toList] at hf
   simp only [execOp,Instr.build,Sem.run_bind,hz w,Result.andThen_ok,run_underlying hu w,hm]
   simp only [List.map_toArray,hv']
   have:(fun i:Nat=>pl.toArray[i]?)=(fun i:Nat=>pl[i]?):=by funext i;simp
   rw [this,hf]
   simp
  | _=>simp at hp
theorem Tv (z:Array Value) (k:Nat) (hk:z.size=k):∀ n,(List.range (n*k)).map (fun j=>z[j % k]!)=(List.replicate n z.toList).flatten
 | 0=>by simp
 | n+1=>by
  rw [Nat.add_mul,Nat.one_mul,List.range_add,List.map_append,Tv z k hk n,List.replicate_succ',List.flatten_append]
  congr 1
  simp only [List.flatten_cons,List.flatten_nil,List.append_nil,List.map_map]
  apply List.ext_getElem
  ·simp [hk]
  ·intro j h1 h2
   have hj:j<k:=by simpa using h1
   simp [Nat.mod_eq_of_lt hj,hk,hj]
theorem Ca {t e k n:Nat} {ps:List (Nat×Operand)} {z:Value} {zs cs:List Value} {vs:List (Nat×Value)} (hs:St c G H w) (hu:x.P.underlying t=some (.slice e)) (hS:∀ w,(sizeOf e).run x.P w=.ok k w)
  (hz:∀ w,(zeroValue e).run x.P w=.ok z w) (hk:z.cells.size=k) (hzs:(List.replicate n z.cells.toList).flatten=zs) (hn:n*k≤16777216) (hn':n≤16777216) (hv:evs E ps=some vs) (hc:Hc (fun i=>some (i*k,k)) zs vs=some cs) (hl:cs.length=n*k)
  (kk:∀ v w',St c G (.row e k v n cs::H) w'→(∃ b,v=.slice (some ⟨b,0,none⟩) n n)→K v w'):S x ⟨d,.buildSlice t n ps.toArray,ty,pos,aft,g⟩ Q K E w:=by
 refine Jm rfl fun a ha=>⟨.slice (some ⟨w.heap.size,0,none⟩) n n,w.alloc (.cells cs.toArray e),?_,kk _ _ (hs.alloc _ (Xk hl Z45) (fun j hj=>by simpa [Res.foot,Value.ownBlock] using hj.symm)) ⟨_,rfl⟩⟩
 have hv':=Ns ha hv
 have hf:=Li hc
 have hr:((Array.range (n*k)).map fun j=>z.cells[j % k]!)=zs.toArray:=by
  rw [← hzs,← Tv z.cells k hk n]
  apply Array.ext'
  simp
 simp only [execOp,Instr.buildSlice,Sem.run_bind,run_underlying hu w,Result.andThen_ok,hS w]
 rw [if_neg Dz]
 simp only [List.map_toArray,hv']
 by_cases h0:n*k=0
 ·have hz0:zs=[]:=by
   have:zs.toArray=#[]:=by rw [← hr,h0];simp
   simpa using this
  subst hz0
  simp only [h0,if_true,Sem.run_bind,Sem.run_pure,Result.andThen_ok]
  have:(Array.map (fun y=>(#[]:Array Value)[y % (#[]:Array Value).size]!) (Array.range 0))=#[]:=by simp
  rw [this,hf]
  simp [newRow]
 ·simp only [h0,if_false,Sem.run_bind,hz w,Result.andThen_ok,Sem.run_pure]
  rw [hk,hr,hf]
  simp [newRow]
def TI (P:Program) (e:TypeId) (z:Value) (k bytes:Nat):Prop:=∃ i,P.info? e=some i∧i.zero=some z∧i.size=k∧i.bytes=bytes
theorem TI.of {P:Program} {e:TypeId} {z:Value} {k bytes:Nat} (h:(P.info? e).map (fun i=>(i.zero,i.size,i.bytes))=some (some z,k,bytes)):TI P e z k bytes:=by
 cases hi:P.info? e with
 | none=>rw [hi] at h;cases h
 | some i =>
  rw [hi] at h
  simp at h
  exact ⟨i,hi,h.1,h.2.1,h.2.2⟩
theorem Xl {P:Program} {t ty e:TypeId} {z:Value} {k bytes:Nat} (ht:P.underlying t=some (.slice e)) (hi:TI P e z k bytes) (hzk:z.cells.size=k) (hk:0<k)
  {v v':Value} {n m c0:Nat} {xs ys:List Value} {w':World} {a:Addr} (hown:w.ownsRow 0 e k v n xs) (hl:ys.length=m*k) (hy:∀ j u,ys[j]?=some u→w.cell? (a.add j)=some u) (h1:∀ y∈ys,y.oneCell'=true) (hb:(n+m)*bytes≤140737488355328) (hm:n+m≤140737488355328)
  (hr:(Builtin.append_ #[t,t] ty #[v,.slice (some a) m c0]).run P w=.ok v' w'):w.drawn≤w'.drawn:=by
 obtain ⟨i,hi,hz,rfl,rfl⟩:=hi
 rcases hown.2 with ⟨rfl,rfl⟩ | ⟨g,cap,cur,rfl,_,hg,hnc,hcm,hcs,_⟩
 ·rcases Nat.eq_zero_or_pos m with h0 | h0
  ·subst h0
   have hn:ys=[]:=List.eq_nil_of_length_eq_zero (by simpa using hl)
   subst hn
   simp [Builtin.append_,run_underlying ht,sizeOf,typeInfo,hi,Builtin.lenOf,Builtin.firstCells,loadCells,loadCellsFrom] at hr
   rw [← hr.2];exact Nat.le_refl _
  ·rw [run_append_nil (P:=P) w t ty e i z ht hi hz a m c0 ys hl hy Dz Dz (by have h2:=hb;simp only [Nat.zero_add] at h2;omega)] at hr
   injection hr with _ hr
   rw [← hr];exact Nat.le_succ _
 ·by_cases hroom:n+m≤cap
  ·rw [run_append_room (P:=P) w t ty e i ht hi g n cap cur hg a m c0 ys hl hy h1 hroom (by rw [hl,hcs,← Nat.add_mul];exact Nat.mul_le_mul_right _ hroom)] at hr
   injection hr with _ hr
   rw [← hr];exact Nat.le_refl _
  ·have holds:∀ j u,xs[j]?=some u→w.cell? ((⟨g,0,none⟩:Addr).add j)=some u:=hown.cells (g:=g) rfl
   rw [run_append_grow (P:=P) w t ty e i z ht hi hz ⟨g,0,none⟩ n cap xs hown.1 holds a m c0 ys hl hy Dz Dz (growslice_fits Dz hb)] at hr
   injection hr with _ hr
   rw [← hr];exact Nat.le_succ _
theorem Xp {P:Program} {t ty e:TypeId} {z:Value} {k bytes:Nat} (ht:P.underlying t=some (.slice e)) (hi:TI P e z k bytes) (hzk:z.cells.size=k) (hk:0<k)
  {v u:Value} {n m:Nat} {xs ys:List Value} (hown:w.ownsRow 0 e k v n xs) (hs:St c G H w) (hu:Sl G u k m ys) (h1:∀ y∈ys,y.oneCell'=true) (hb:(n+m)*bytes≤140737488355328) (hm:n+m≤140737488355328) :
  ∃ v' w',(Builtin.append_ #[t,t] ty #[v,u]).run P w=.ok v' w'∧w'.ownsRow 0 e k v' (n+m) (xs++ys)∧w.grownBy w' v.ownBlock∧(v'.ownBlock=v.ownBlock∨v'.ownBlock=some w.heap.size)∧w.drawn≤w'.drawn:=by
 have hI:=hi
 obtain ⟨i,hi,hz,hik,hib⟩:=hi
 obtain ⟨A,cap,rfl,hl,hmc,hcm,hA⟩:=hu
 rcases Nat.eq_zero_or_pos m with h0 | h0
 ·subst h0
  have hy:ys=[]:=List.eq_nil_of_length_eq_zero (by simpa using hl)
  subst hy
  cases A with
  | none =>
   refine ⟨v,w,?_,by simpa using hown,⟨rfl,rfl,rfl,Nat.le_refl _,fun _ _ _=>rfl⟩,.inl rfl,Nat.le_refl _⟩
   rcases hown.2 with ⟨rfl,rfl⟩ | ⟨g,cp,cur,rfl,_,_,hnc,_⟩
   ·simp [Builtin.append_,run_underlying ht,sizeOf,typeInfo,hi,Builtin.lenOf,Builtin.firstCells]
   ·simp [Builtin.append_,run_underlying ht,sizeOf,typeInfo,hi,Builtin.lenOf,Builtin.firstCells,hnc,storeCells]
  | some a =>
   obtain ⟨v',w',h2,h3,h4,_,h5⟩:=run_append_own_at (P:=P) w 0 t ty e i z k bytes ht hi hz hik hib hzk hk v n xs hown a 0 cap [] Dr Dr Dr Z45 hb (Nat.zero_le _)
   exact ⟨v',w',h2,h3,h4,h5,Xl (ys:=[]) ht hI hzk hk hown Dr Dr Dr hb hm h2⟩
 ·obtain ⟨a,rfl,hc⟩:=hA h0
  obtain ⟨v',w',h2,h3,h4,_,h5⟩:=run_append_own_at (P:=P) w 0 t ty e i z k bytes ht hi hz hik hib hzk hk v n xs hown a m cap ys hl (fun j u hj=>hs.cell (hc j u hj)) h1 Z45 hb (Nat.zero_le _)
  exact ⟨v',w',h2,h3,h4,h5,Xl ht hI hzk hk hown hl (fun j u hj=>hs.cell (hc j u hj)) h1 hb hm h2⟩
theorem Bf {o p:Operand} {t e:TypeId} {z v u:Value} {k bytes n m:Nat} {xs ys:List Value} (hs:St c G (.row e k v n xs::H) w) (ht:x.P.underlying t=some (.slice e)) (hi:TI x.P e z k bytes) (hzk:z.cells.size=k) (hk:0<k)
  (ho:ev E o=some v) (hp:ev E p=some u) (hu:Sl G u k m ys) (h1:∀ y∈ys,y.oneCell'=true) (hb:(n+m)*bytes≤140737488355328) (hm:n+m≤140737488355328)
  (kk:∀ v' w',St c G (.row e k v' (n+m) (xs++ys)::H) w'→K v' w'):S x ⟨d,.call { callee:=.builtin .append,args:=#[o,p],argTypes:=#[t,t] },ty,pos,aft,g⟩ Q K E w:=by
 have hown:w.ownsRow 0 e k v n xs:=hs.hold (.row e k v n xs) Dr
 obtain ⟨v',w',hr,h2,h3,h4,hdr⟩:=Xp (ty:=ty) ht hi hzk hk hown hs hu h1 hb hm
 refine Jm rfl fun a ha=>⟨v',w',?_,kk _ _ (hs.write h3.os h3.tape h3.output h3.size (fun j hj hne=>h3.block j hj (fun he=>hne he.symm)) h2 (fun j hj=>?_))⟩
 ·simp [execOp,resolve,invoke,builtin,ha.ev ho,ha.ev hp,hr]
 ·rcases h4 with h4 | h4
  ·left;simpa [Res.foot,h4] using hj
  ·right
   have:w.heap.size=j:=by simpa [Res.foot,h4] using hj
   omega
theorem Et {f:FuncId} {ao:List Operand} {ats:Array TypeId} {args:List Value} {H1:List Res} {R:Value→Ghost→List Res→Prop} {fn:Func} (hs:St c G (H1++H) w) (ha:ao.map (ev E)=args.map some) (hfn:x.P.funcs[f]?=some fn) (hb:fn.body.isSome=true)
  (hnm : (fn.name == "runtime.NumGoroutine") = false) (h : Ai x.P f args G H1 R)
  (kk:∀ v G' H' w',R v G' H'→G.le G'→St c G' (H'++H) w'→K v w'):S x ⟨d,.call { callee:=.value (.func f),args:=ao.toArray,argTypes:=ats },ty,pos,aft,g⟩ Q K E w:=by
 intro a hA next hn
 have hargs:ao.map a.eval=args:=by
  have:∀ (ao:List Operand) (args:List Value),ao.map (ev E)=args.map some→ao.map a.eval=args:=by
   intro ao
   induction ao with
   | nil=>intro args h;cases args with
    | nil=>rfl
    | cons _ _=>cases h
   | cons o ao ih =>
    intro args h
    cases args with
    | nil=>cases h
    | cons v args =>
     simp only [List.map_cons,List.cons.injEq] at h
     simp [hA.ev h.1,ih args h.2]
  exact this ao args ha
 refine ⟨fun _ _=>trivial,?_⟩
 rw [Oper.semAt_eq _ _ _ (fun c hc=>by cases hc)]
 have hr:(execOp a.eval ⟨d,.call { callee:=.value (.func f),args:=ao.toArray,argTypes:=ats },ty,pos,aft,g⟩).run x.P w=.ok (.enter f args.toArray) w:=by
  have hbn:¬ fn.body=none:=by intro h0;rw [h0] at hb;cases hb
  have hnm' : ¬ fn.name = "runtime.NumGoroutine" := by simpa using hnm
  simp [execOp,resolve,Deferred.ofValue,Act.eval,invoke,callFunc,hfn,hnm',hbn,hargs]
 rw [hr]
 refine ⟨fun h=>gK,?_⟩
 have hcall:=h.call hs
 have h2:=(callsIn_wide (n:=0)).2 hcall
 have h3:=CallsIn.mono (F:=RF x.r) (n:=0-1) (R:=_) (R':=fun
   | .returned v,w''=>next (a.put d v) w''
   | .panicked chain,w''=>Tp x.N Q (.panic chain) a w''
   | .outgrown,_=>LetsOut (Tp x.N Q)) h2 (fun e w' he=>by
  obtain ⟨v,G',H',rfl,hle,hs',hR⟩:=he
  exact hn _ _ (kk v G' H' w' hR hle hs'))
 exact h3
theorem St.fixRow {e k n:Nat} {v:Value} {xs:List Value} (hs:St c G (.row e k v n xs::H) w) (hM:∀ b,v.ownBlock=some b→¬ c.M b):∃ G',G.le G'∧Sl G' v k n xs∧St c G' H w:=by
 obtain ⟨G',h1,h2,h3⟩:=hs.freeze hM
 exact ⟨G',h1,Sl.of_row (hs.hold (.row e k v n xs) Dr) (fun b hb=>h2 b hb),h3⟩
theorem St.rowOne {e k n:Nat} {v:Value} {xs:List Value} (i:Nat) (hs:St c G H w) (hi:H[i]?=some (.row e k v n xs)):v.oneCell'=true:=by
 have h:=hs.hold _ (List.mem_of_getElem? hi)
 rcases h.2 with ⟨rfl,_⟩ | ⟨g,cp,cur,rfl,_⟩<;>rfl
theorem St.rowTake {e k n m b cap:Nat} {xs:List Value} (hs:St c G (.row e k (.slice (some ⟨b,0,none⟩) n cap) n xs::H) w) (hm:m≤n):St c G (.row e k (.slice (some ⟨b,0,none⟩) m cap) m (xs.take (m*k))::H) w:=by
 have hown:w.ownsRow 0 e k (.slice (some ⟨b,0,none⟩) n cap) n xs:=hs.hold (.row e k _ n xs) Dr
 have hmk:m*k≤n*k:=Nat.mul_le_mul_right _ hm
 refine hs.write rfl rfl rfl (Nat.le_refl _) (fun _ _ _=>rfl) ?_ (fun j hj=>.inl hj)
 refine ⟨by rw [List.length_take,hown.1];omega,?_⟩
 rcases hown.2 with ⟨h,_⟩ | ⟨g,cp,cur,h,h0,hh,hnc,hcm,hsz,htk⟩
 ·cases h
 ·injection h with h1 h2 h3
  injection h1 with h1
  injection h1 with h1
  subst h1 h3
  refine .inr ⟨b,cap,cur,rfl,h0,hh,by omega,hcm,hsz,?_⟩
  rw [← htk,List.take_take,Nat.min_eq_left hmk]
theorem Y_cap {W:World→Prop} {K:Value→Prop} {o:Operand} {t e:TypeId} {A:Option Addr} {n cp:Nat} (hu:x.P.underlying t=some (.slice e)) (h:ev E o=some (.slice A n cp)) (k:K (.int .i64 (cp:Int))) :
  Y x W ⟨d,.call { callee:=.builtin .cap,args:=#[o],argTypes:=#[t] },ty,pos,aft,g⟩ E K :=
 De (v:=.int .i64 (cp:Int)) (fun a ha w _=>by
  simp [execOp,resolve,invoke,builtin,Builtin.cap_,ha.ev h,run_underlying hu,goInt]) k
theorem Xq {W:World→Prop} {K:Value→Prop} {o q:Operand} {t e:TypeId} {A:Option Addr} {n cp s:Nat} {kd:IntKind} {j:Int} (h:Nat) (hu:x.P.underlying t=some (.slice e)) (hs:∀ w,(sizeOf e).run x.P w=.ok s w) (h1:ev E o=some (.slice A n cp)) (h2:ev E q=some (.int kd j)) (hj:j=(h:Int)) (hh:h≤cp)
  (k:K (.slice A h cp)):Y x W ⟨d,.slice t o none (some q) none,ty,pos,aft,g⟩ E K:=by
 subst hj
 have hA:(if cp=0 then A else A.map fun a=>a.add (0*s))=A:=by
  split
  ·rfl
  ·cases A with
   | none=>rfl
   | some a=>simp [Addr.add]
 refine De (v:=.slice A h cp) (fun f hf w _=>?_) k
 simp only [Nat.zero_mul] at hA
 simp [execOp,hf.ev h1,hf.ev h2,Instr.sliceAt,Instr.slice,Instr.sliceBounds,Instr.sliceBound,asIntOf,run_underlying hu,hs w,hh,hA]
theorem qV {o p:Operand} {t ti e:TypeId} {kd:IntKind} {z:Value} {bytes n:Nat} (hs:St c G H w) (ht:x.P.underlying t=some (.slice e)) (hti:x.P.underlying ti=some (.int kd)) (hi:TI x.P e z 1 bytes) (hzk:z.cells.size=1)
  (ho:ev E o=some (.slice none 0 0)) (hp:ev E p=some (.int kd (n:Int))) (h0:0<n) (hb:n*bytes≤140737488355328) (hm:n≤140737488355328)
  (kk:∀ b cp xs w',n≤cp→St c G (.row e 1 (.slice (some ⟨b,0,none⟩) n cp) n xs::H) w'→K (.slice (some ⟨b,0,none⟩) n cp) w'):S x ⟨d,.call { callee:=.builtin .append,args:=#[o,p],argTypes:=#[t,ti] },ty,pos,aft,g⟩ Q K E w:=by
 obtain ⟨i,hi,hz,hik,hib⟩:=hi
 have wl:IntKind.i64.wrap (n:Int)=n:=Gw Dz
 have hbz:((n:Int)*(i.bytes:Int))≤140737488355328:=by
  have h:((n*bytes:Nat):Int)≤140737488355328:=by omega
  rw [hib];rwa [Int.natCast_mul] at h
 have e1:¬ ((281474976710656:Int)<(n:Int)*(i.bytes:Int)):=Int.not_lt.2 (Int.le_trans hbz (by decide))
 have e2:Builtin.nextslicecap n 0=n:=nextslicecap_zero h0
 have e3:¬ (281474976710656<n*i.bytes):=by rw [hib];omega
 have hgc:=grownCap_ge w n 0 e
 have hcm:=grownCap_le_maxLen w n 0 e Z45
 have hd1:St c G H w.drew:=hs.drew
 have hsz:∀ q,(Builtin.zeroCells z.cells q).size=q:=fun q=>by rw [size_zeroCells,hzk,Nat.mul_one]
 have hrow:Res.holds (w.drew.alloc (.cells (Builtin.zeroCells z.cells n++Builtin.zeroCells z.cells (grownCap w n 0 e-n)) e)) (.row e 1 (.slice (some ⟨w.heap.size,0,none⟩) n (grownCap w n 0 e)) n (Builtin.zeroCells z.cells n).toList):=by
  refine ⟨by rw [Array.length_toList,hsz,Nat.mul_one],.inr ⟨_,_,_,rfl,Nat.zero_le _,heap_alloc_new w.drew _,hgc,hcm,?_,?_⟩⟩
  ·rw [Array.size_append,hsz,hsz,Nat.mul_one];omega
  ·rw [Array.toList_append,Nat.mul_one]
   exact List.take_left' (by rw [Array.length_toList,hsz])
 refine Jm rfl fun a ha=>⟨_,_,?_,kk w.heap.size (grownCap w n 0 e) (Builtin.zeroCells z.cells n).toList _ hgc (hd1.alloc _ hrow (fun j hj=>by
  have:w.heap.size=j:=by simpa [Res.foot,Value.ownBlock] using hj
  exact this.symm))⟩
 have hl0:¬ ((n:Int)<0):=by omega
 have hn0:¬ (n=0):=by omega
 have hbig:¬ (9223372036854775807<(n:Int)):=by omega
 have hrun:(Builtin.append_ #[t,ti] ty #[.slice none 0 0,.int kd (n:Int)]).run x.P w=.ok (.slice (some ⟨w.heap.size,0,none⟩) n (grownCap w n 0 e)) (w.drew.alloc (.cells (Builtin.zeroCells z.cells n++Builtin.zeroCells z.cells (grownCap w n 0 e-n)) e)):=by
  simp [Builtin.append_,run_underlying ht,run_underlying hti,sizeOf,typeInfo,zeroValue,hi,hz,hik,asInt,asIntOf,wl,e1,e2,e3,hn0,hbig,Question.forced,run_firstCells_none,newRow,grownCap]
  intro h;omega
 simp [execOp,resolve,invoke,builtin,ha.ev ho,ha.ev hp,hrun]
end
def Cj {α β:Type} (R:α→β→Prop):List α→List β→Prop
 | [],[]=>True
 | a::l,b::m=>R a b∧Cj R l m
 | _,_=>False
theorem Cj.length {α β:Type} {R:α→β→Prop}:∀ {l:List α} {m:List β},Cj R l m→l.length=m.length
 | [],[],_=>rfl
 | _::_,_::_,h=>by simp [Cj.length h.2]
theorem Cj.mono {α β:Type} {R R':α→β→Prop} (hr:∀ a b,R a b→R' a b):∀ {l:List α} {m:List β},Cj R l m→Cj R' l m
 | [],[],_=>trivial
 | _::_,_::_,h=>⟨hr _ _ h.1,Cj.mono hr h.2⟩
theorem Cj.get {α β:Type} {R:α→β→Prop}:∀ {l:List α} {m:List β} (i:Nat),Cj R l m→(h:i<m.length)→∃ a,l[i]?=some a∧R a m[i]
 | [],[],i,_,h=>by simp at h
 | a::_,b::_,0,h,_=>⟨a,rfl,h.1⟩
 | _::l,_::m,i+1,h,hi=>by
  obtain ⟨a,h1,h2⟩:=Cj.get i h.2 (by simpa using hi)
  exact ⟨a,by simpa using h1,by simpa using h2⟩
theorem Cj.append {α β:Type} {R:α→β→Prop}:∀ {l l':List α} {m m':List β},Cj R l m→Cj R l' m'→Cj R (l++l') (m++m')
 | [],_,[],_,_,h'=>h'
 | _::_,_,_::_,_,h,h'=>⟨h.1,Cj.append h.2 h'⟩
theorem Cj.drop {α β:Type} {R:α→β→Prop}:∀ {l:List α} {m:List β} (i:Nat),Cj R l m→Cj R (l.drop i) (m.drop i)
 | l,m,0,h=>by simpa using h
 | [],[],_+1,_=>trivial
 | _::_,_::_,i+1,h=>by simpa using Cj.drop i h.2
theorem Cj.take {α β:Type} {R:α→β→Prop}:∀ {l:List α} {m:List β} (i:Nat),Cj R l m→Cj R (l.take i) (m.take i)
 | _,_,0,_=>by simp [Cj]
 | [],[],_+1,_=>trivial
 | _::_,_::_,i+1,h=>⟨h.1,Cj.take i h.2⟩
def Mv (P:Program) (E:Env) (w:World):ResultVar→Value→Prop
 | .tmp t,v=>Ge E.l t=some v
 | .cell a ty,v=>∃ p,Ge E.l a=some (.pointer (some p))∧(loadVar ty p).run P w=.ok v w
def tup:List Value→Value
 | [v]=>v
 | vs=>.tuple vs.toArray
def uJ (tmps:Array Value):ResultVar→Sem Value
 | .tmp t=>pure (tmps.getD t undef)
 | .cell b t=>do loadVar t (← asAddr (tmps.getD b undef))
theorem lE (fn:Func) (tmps:Array Value):results fn tmps=(do let vs ← fn.results.mapM (uJ tmps);pure (if h:vs.size=1 then vs[0] else .tuple vs)):=by
 unfold results
 congr 2
theorem uK {P:Program} {N:Nat} {E:Env} {w:World} {a:Act} (ha:Ag N E a) {r:ResultVar} {v:Value} (h:Mv P E w r v):(uJ a.tmps r).run P w=.ok v w:=by
 cases r with
 | tmp t =>
  have:=ha.look t v h
  simp [uJ,this]
 | cell b t =>
  obtain ⟨p,hp,hl⟩:=h
  have:=ha.look b _ hp
  simp [uJ,this,asAddr,hl]
theorem Rk {P:Program} {N:Nat} {E:Env} {w:World} {a:Act} (ha:Ag N E a):∀ {rs:List ResultVar} {vs:List Value},Cj (Mv P E w) rs vs →
  (rs.mapM (uJ a.tmps)).run P w=.ok vs w
 | [],[],_=>by simp
 | r::rs,v::vs,h=>by
  have ih:=Rk ha h.2
  have h1:=uK ha h.1
  simp only [List.mapM_cons,Sem.run_bind,h1,Result.andThen_ok,ih,Sem.run_pure]
theorem Kr {P:Program} {N:Nat} {E:Env} {w:World} {fn:Func} {rs:List ResultVar} {vs:List Value} (hr:fn.results=rs.toArray) (h:Cj (Mv P E w) rs vs) :
  ∀ a,Ag N E a→(results fn a.tmps).run P w=.ok (tup vs) w:=by
 intro a ha
 have hm:=Rk ha h
 rw [lE,hr]
 simp only [List.mapM_toArray,Sem.run_bind,Sem.run_map,hm,Result.andThen_ok,Sem.run_pure]
 match vs with
 | []=>rfl
 | [v]=>rfl
 | _::_::_=>simp [tup]
theorem Bi {P:Program} {N:Nat} {E:Env} {w:World} {fn:Func} {rs:List ResultVar} {vs:List Value} {R:Value→World→Prop} (hr:fn.results=rs.toArray) (hd:E.d=[]) (h:Cj (Mv P E w) rs vs) (hR:R (tup vs) w) :
  Rt P N fn R .ret E w:=⟨hd,tup vs,Kr hr h,hR⟩
theorem Ez {P:Program} {N:Nat} {E:Env} {w:World} {fn:Func} {rs:List ResultVar} {vs:List Value} {R:Value→World→Prop} (hr:fn.results=rs.toArray) (hd:E.d=[]) (h:Cj (Mv P E w) rs vs) (hR:R (tup vs) w) :
  Rt P N fn R .normal E w:=⟨hd,tup vs,Kr hr h,hR⟩
theorem Bk {P:Program} {E:Env} {w:World} {c:Ctx} {G:Ghost} {H:List Res} {a b e n:Nat} {ty:TypeId} {cs:List Value} (i:Nat) (hs:St c G H w) (hA:∀ w,(isAgg ty).run P w=.ok true w) (hS:∀ w,(sizeOf ty).run P w=.ok n w)
  (h:Ge E.l a=some (.pointer (some ⟨b,0,none⟩))) (hi:H[i]?=some (.blk b e cs)) (hn:cs.length=n):Mv P E w (.cell a ty) (.agg cs.toArray):=by
 refine ⟨_,h,Hj (hA w) (hS w) hn fun q u hq=>?_⟩
 have hb:w.heap[b]?=some (.cells cs.toArray e (0,0)):=hs.hold _ (List.mem_of_getElem? hi)
 have hadd:((⟨b,0,none⟩:Addr).add q)=⟨b,q,none⟩:=by
  unfold Addr.add;split
  ·rename_i h0;simp [h0]
  ·simp
 rw [hadd]
 simp [World.cell?,hb,hq]
abbrev Kc (b:UInt8):Value:=.int .u8 (b.toNat:Int)
def Cv (G:Ghost) (v:Value) (bs:List UInt8):Prop:=Sl G v 1 bs.length (bs.map Kc)
theorem Cv.mono {G G':Ghost} (h:G.le G') {v:Value} {bs:List UInt8} (hb:Cv G v bs):Cv G' v bs:=Sl.mono h hb
def Bt (G:Ghost) (v:Value) (l:List Int):Prop:=Sl G v 1 l.length (l.map (.int .i64))
theorem Bt.mono {G G':Ghost} (h:G.le G') {v:Value} {l:List Int} (hb:Bt G v l):Bt G' v l:=Sl.mono h hb
def Jb (G:Ghost) (v:Value) (l:List (List UInt8)):Prop:=∃ vs,Sl G v 1 l.length vs∧Cj (Cv G) vs l
theorem Jb.mono {G G':Ghost} (h:G.le G') {v:Value} {l:List (List UInt8)} (hb:Jb G v l):Jb G' v l:=by
 obtain ⟨vs,h1,h2⟩:=hb
 exact ⟨vs,h1.mono h,h2.mono fun _ _=>Cv.mono h⟩
theorem gO {l:List Int}:∀ y∈l.map (Value.int .i64),y.oneCell'=true:=by
 intro y hy
 obtain ⟨b,_,rfl⟩:=List.mem_map.1 hy
 rfl
theorem Cv.nil_of {G:Ghost} {n c:Nat} {bs:List UInt8} (h:Cv G (.slice none n c) bs):bs=[]:=by
 obtain ⟨A,c',he,_,_,_,hA⟩:=h
 injection he with h1 h2 h3
 subst h1
 rcases Nat.eq_zero_or_pos bs.length with h0 | h0
 ·exact List.eq_nil_of_length_eq_zero h0
 ·obtain ⟨a,ha,_⟩:=hA h0;cases ha
theorem lF {x:Cx} {W:World→Prop} {E:Env} {K:Value→Prop} {d:Option Tmp} {ty:TypeId} {pos:String} {aft:Array Edge} {g:Option (Nat×Bool)} {o p:Operand} {xt yt e:TypeId} {A:Option Addr} {n c:Nat} (hu:x.P.underlying xt=some (.slice e)) (h1:ev E o=some (.slice A n c)) (h2:ev E p=some (.slice none 0 0))
  (hT:A=none→K (.bool true)) (hF:¬ A=none→K (.bool false)):Y x W ⟨d,.binOp .eql xt o p yt,ty,pos,aft,g⟩ E K:=by
 cases A with
 | none =>
  refine De (v:=.bool true) (fun f hf w _=>?_) (hT rfl)
  have he:eqGuard .eql xt o p (.slice none n c) (.slice none 0 0)=pure ():=rfl
  have h:∀ q:Nat,(Op.equalIn (q+1) xt (.slice none n c) (.slice none 0 0)).run x.P w=.ok true w:=fun q=>by simp [Op.equalIn,run_underlying hu]
  have h':(binOp .eql xt (.slice none n c) (.slice none 0 0)).run x.P w=.ok (.bool true) w:=by
   simp only [binOp]
   simp [Op.equal,Op.maxDepth,h 9999]
  simp only [execOp,hf.ev h1,hf.ev h2,he]
  simp [h']
 | some a =>
  refine De (v:=.bool false) (fun f hf w _=>?_) (hF Dr)
  have he:eqGuard .eql xt o p (.slice (some a) n c) (.slice none 0 0)=pure ():=rfl
  have h:∀ q:Nat,(Op.equalIn (q+1) xt (.slice (some a) n c) (.slice none 0 0)).run x.P w=.ok false w:=fun q=>by simp [Op.equalIn,run_underlying hu]
  have h':(binOp .eql xt (.slice (some a) n c) (.slice none 0 0)).run x.P w=.ok (.bool false) w:=by
   simp only [binOp]
   simp [Op.equal,Op.maxDepth,h 9999]
  simp only [execOp,hf.ev h1,hf.ev h2,he]
  simp [h']
section
variable {x:Cx} {W:World→Prop} {E:Env} {K:Value→Prop} {d:Option Tmp} {ty:TypeId} {pos:String} {aft:Array Edge} {g:Option (Nat×Bool)} {o q:Operand} {t e:TypeId} {kd:IntKind} {j:Int} {v:Value} {G:Ghost}
theorem Jc {n:Nat} {xs:List Value} {u:Value} (i:Nat) (hu:x.P.underlying t=some (.slice e)) (hs:∀ w,(sizeOf e).run x.P w=.ok 1 w) (hS:Sl G v 1 n xs) (h1:ev E o=some v) (h2:ev E q=some (.int kd j)) (hj:j=(i:Int)) (hx:xs[i]?=some u)
  (k:∀ p,Ft G p=some u→K (.pointer (some p))):Y x W ⟨d,.indexAddr t o q,ty,pos,aft,g⟩ E K:=by
 have hlt:i<n:=by
  have h3:=(List.getElem?_eq_some_iff.1 hx).1
  rw [hS.len] at h3;omega
 refine Y_idx i hu hs hS h1 h2 hj hlt fun p hp=>k p ?_
 have:=hp 0 u (by simpa using hx)
 exact this
theorem eG {bs:List UInt8} (hb:Cv G v bs) (i:Nat) (hu:x.P.underlying t=some (.slice e)) (hs:∀ w,(sizeOf e).run x.P w=.ok 1 w) (h1:ev E o=some v) (h2:ev E q=some (.int kd j)) (hj:j=(i:Int)) (hi:i<bs.length)
  (k:∀ p,Ft G p=some (Kc bs[i])→K (.pointer (some p))):Y x W ⟨d,.indexAddr t o q,ty,pos,aft,g⟩ E K :=
 Jc i hu hs hb h1 h2 hj (by simp [hi]) k
theorem Dl {l:List Int} (hb:Bt G v l) (i:Nat) (hu:x.P.underlying t=some (.slice e)) (hs:∀ w,(sizeOf e).run x.P w=.ok 1 w) (h1:ev E o=some v) (h2:ev E q=some (.int kd j)) (hj:j=(i:Int)) (hi:i<l.length)
  (k:∀ p,Ft G p=some (.int .i64 l[i])→K (.pointer (some p))):Y x W ⟨d,.indexAddr t o q,ty,pos,aft,g⟩ E K :=
 Jc i hu hs hb h1 h2 hj (by simp [hi]) k
theorem Nt {lo hi:Option Operand} {bs:List Int} (hb:Bt G v bs) (l h:Nat) (hu:x.P.underlying t=some (.slice e)) (hs:∀ w,(sizeOf e).run x.P w=.ok 1 w) (h1:ev E o=some v) (hlo:bnd E lo 0 l) (hhi:bnd E hi bs.length h) (hl:l≤h) (hh:h≤bs.length)
  (k:∀ v',Bt G v' ((bs.drop l).take (h-l))→K v'):Y x W ⟨d,.slice t o lo hi none,ty,pos,aft,g⟩ E K :=
 Y_slice l h hu hs hb h1 hlo hhi hl hh fun v' hv=>k v' (by
  unfold Bt
  have:((bs.drop l).take (h-l)).length=h-l:=by rw [List.length_take,List.length_drop];omega
  rw [this]
  simpa [List.map_take,List.map_drop] using hv)
end
theorem nP {x:Cx} {E:Env} {K:Value→Prop} {d:Option Tmp} {ty:TypeId} {pos:String} {aft:Array Edge} {g:Option (Nat×Bool)} {o:Operand} {src dst e:TypeId} {v:Value} {bs:List UInt8} {c:Ctx} {G:Ghost} {H:List Res}
  (hsr:x.P.underlying src=some (.slice e)) (he:x.P.underlying e=some (.int .u8)) (hd:x.P.underlying dst=some .string) (h:ev E o=some v) (hb:Cv G v bs) (k:K (.string ⟨bs.toArray⟩)) :
  Y x (St c G H) ⟨d,.convert src dst o,ty,pos,aft,g⟩ E K:=by
 obtain ⟨A,cap,rfl,hl,_,_,hA⟩:=hb
 refine De (v:=.string ⟨bs.toArray⟩) (fun f hf w hw=>?_) k
 have hr:(convert src dst (.slice A bs.length cap)).run x.P w=.ok (.string ⟨bs.toArray⟩) w:=by
  rw [run_convert_bytes_string w src dst e _ bs.length cap hsr he hd]
  cases A with
  | none =>
   have:bs=[]:=by
    rcases Nat.eq_zero_or_pos bs.length with h0 | h0
    ·exact List.eq_nil_of_length_eq_zero h0
    ·obtain ⟨a,ha,_⟩:=hA h0;cases ha
   subst this
   rfl
  | some a =>
   have hc:∀ j u,(bs.map Kc)[j]?=some u→w.cell? (a.add j)=some u:=by
    intro j u hj
    have hp:0<bs.length:=by
     rcases Nat.eq_zero_or_pos bs.length with h0 | h0
     ·rw [List.eq_nil_of_length_eq_zero h0] at hj;cases hj
     ·exact h0
    obtain ⟨a',ha',hc⟩:=hA hp
    injection ha' with ha'
    subst ha'
    exact hw.cell (hc j u hj)
   have hlc:=run_loadCells_list (P:=x.P) w a (bs.map Kc) hc
   have hm:bs.map Kc=(bs.map fun b=>(b.toNat:Int)).map (Value.int .u8):=by simp
   rw [List.length_map,hm] at hlc
   rw [run_bytesToString w a bs.length cap _ hlc,foldl_push_bytes]
   have:((bs.map fun b=>(b.toNat:Int)).map fun n=>UInt8.ofNat n.toNat)=bs:=by
    rw [List.map_map]
    conv=>rhs;rw [← List.map_id bs]
    apply List.map_congr_left
    intro b _
    simp
   rw [this]
   simp [ByteArray.empty,ByteArray.emptyWithCapacity]
   rfl
 simp [execOp,hf.ev h,hr]
theorem nQ {x:Cx} {W:World→Prop} {E:Env} {K:Value→Prop} {d:Option Tmp} {ty:TypeId} {pos:String} {aft:Array Edge} {g:Option (Nat×Bool)} {o p:Operand} {xt yt:TypeId} {s t:ByteArray} {b:Bool}
  (h1:ev E o=some (.string s)) (h2:ev E p=some (.string t)) (hb:(s.data.toList=t.data.toList)↔b=true) (k:K (.bool b)):Y x W ⟨d,.binOp .eql xt o p yt,ty,pos,aft,g⟩ E K:=by
 refine De (v:=.bool b) (fun f hf w _=>?_) k
 have he:eqGuard .eql xt o p (.string s) (.string t)=pure ():=rfl
 have:(s.toList == t.toList)=b:=by
  have e1:∀ q:ByteArray,q.toList=q.data.toList:=fun q=>ByteArray.toList_eq q
  rw [e1,e1]
  cases b<;>simp_all
 simp only [execOp,hf.ev h1,hf.ev h2,he]
 simp [binOp,Op.stringOp,this]
theorem nS {x:Cx} {W:World→Prop} {E:Env} {K:Value→Prop} {d:Option Tmp} {ty:TypeId} {pos:String} {aft:Array Edge} {g:Option (Nat×Bool)} {o p:Operand} {xt yt:TypeId} {s t:ByteArray} {b:Bool}
  (h1:ev E o=some (.string s)) (h2:ev E p=some (.string t)) (hb:(¬ s.data.toList=t.data.toList)↔b=true) (k:K (.bool b)):Y x W ⟨d,.binOp .neq xt o p yt,ty,pos,aft,g⟩ E K:=by
 refine De (v:=.bool b) (fun f hf w _=>?_) k
 have he:eqGuard .neq xt o p (.string s) (.string t)=pure ():=rfl
 have:(!(s.toList == t.toList))=b:=by
  have e1:∀ q:ByteArray,q.toList=q.data.toList:=fun q=>ByteArray.toList_eq q
  rw [e1,e1]
  cases b<;>simp_all
 simp only [execOp,hf.ev h1,hf.ev h2,he]
 simp [binOp,Op.stringOp,this]
section
variable {x:Cx} {W:World→Prop} {E:Env} {K:Value→Prop} {d:Option Tmp} {ty:TypeId} {pos:String} {aft:Array Edge} {g:Option (Nat×Bool)} {o p:Operand} {xt yt:TypeId}
theorem gP {a b:List UInt8} (h1:ev E o=some (.string ⟨a.toArray⟩)) (h2:ev E p=some (.string ⟨b.toArray⟩)) (hT:a=b→K (.bool true)) (hF:¬ a=b→K (.bool false)):Y x W ⟨d,.binOp .eql xt o p yt,ty,pos,aft,g⟩ E K:=by
 by_cases h:a=b
 ·exact nQ h1 h2 (b:=true) (by simp [h]) (hT h)
 ·exact nQ h1 h2 (b:=false) (by simp [h]) (hF h)
theorem uL {a b:List UInt8} (h1:ev E o=some (.string ⟨a.toArray⟩)) (h2:ev E p=some (.string ⟨b.toArray⟩)) (hT:¬ a=b→K (.bool true)) (hF:a=b→K (.bool false)):Y x W ⟨d,.binOp .neq xt o p yt,ty,pos,aft,g⟩ E K:=by
 by_cases h:a=b
 ·exact nS h1 h2 (b:=false) (by simp [h]) (hF h)
 ·exact nS h1 h2 (b:=true) (by simp [h]) (hT h)
theorem qW {a b:Bool} (hu:x.P.underlying xt=some .bool) (h1:ev E o=some (.bool a)) (h2:ev E p=some (.bool b)) (hT:a=b→K (.bool true)) (hF:¬ a=b→K (.bool false)):Y x W ⟨d,.binOp .eql xt o p yt,ty,pos,aft,g⟩ E K:=by
 have hk:K (.bool (a == b)):=by
  by_cases h:a=b
  ·rw [beq_iff_eq.2 h];exact hT h
  ·rw [beq_eq_false_iff_ne.2 h];exact hF h
 refine De (v:=.bool (a == b)) (fun f hf w _=>?_) hk
 have he:eqGuard .eql xt o p (.bool a) (.bool b)=pure ():=rfl
 have h:∀ q:Nat,(Op.equalIn (q+1) xt (.bool a) (.bool b)).run x.P w=.ok (a == b) w:=fun q=>by simp [Op.equalIn,run_underlying hu]
 have h':(binOp .eql xt (.bool a) (.bool b)).run x.P w=.ok (.bool (a == b)) w:=by
  simp only [binOp]
  simp [Op.equal,Op.maxDepth,h 9999]
 simp only [execOp,hf.ev h1,hf.ev h2,he]
 simp [h']
end
theorem Jb.nil (G:Ghost):Jb G (.slice none 0 0) []:=⟨[],Sl.nil G 1,trivial⟩
theorem Cj.snoc {α β:Type} {R:α→β→Prop} {l:List α} {m:List β} {a:α} {b:β} (h:Cj R l m) (hab:R a b):Cj R (l++[a]) (m++[b]):=Cj.append h ⟨hab,trivial⟩
theorem Fj {v:Value} (h:v.oneCell'=true):∀ y∈[v],y.oneCell'=true:=by
 intro y hy
 obtain rfl:y=v:=by simpa using hy
 exact h
theorem Cv.one {G:Ghost} {v:Value} {bs:List UInt8} (h:Cv G v bs):v.oneCell'=true:=by
 obtain ⟨_,_,rfl,_⟩:=h;rfl
def LB (G:Ghost) (vs:List Value) (l:List (List UInt8)):Prop:=Cj (Cv G) vs l
theorem LB.mono {G G':Ghost} (h:G.le G') {vs:List Value} {l:List (List UInt8)} (hb:LB G vs l):LB G' vs l:=Cj.mono (fun _ _=>Cv.mono h) hb
theorem LB.snoc {G:Ghost} {vs:List Value} {l:List (List UInt8)} {v:Value} {b:List UInt8} (h:LB G vs l) (hb:Cv G v b):LB G (vs++[v]) (l++[b]):=Cj.snoc h hb
theorem LB.nil (G:Ghost):LB G [] []:=trivial
theorem LB.one {G:Ghost} {vs:List Value} {l:List (List UInt8)} (h:LB G vs l):∀ y∈vs,y.oneCell'=true:=by
 have key:∀ (vs:List Value) (l:List (List UInt8)),LB G vs l→∀ y∈vs,y.oneCell'=true:=by
  intro vs
  induction vs with
  | nil=>intro l _ y hy;cases hy
  | cons v vs ih =>
   intro l h y hy
   cases l with
   | nil=>exact h.elim
   | cons b l =>
    rcases List.mem_cons.1 hy with rfl | hy
    ·exact Cv.one h.1
    ·exact ih l h.2 y hy
 exact key vs l h
theorem gQ (a:UInt8):IntKind.i64.wrap (a.toNat:Int)=(a.toNat:Int):=Gw (by have:=a.toNat_lt;omega)
theorem Cv.cast {G:Ghost} {v:Value} {a b:List UInt8} (h:a=b) (hb:Cv G v a):Cv G v b:=h▸hb
theorem Jb.cast {G:Ghost} {v:Value} {a b:List (List UInt8)} (h:a=b) (hb:Jb G v a):Jb G v b:=h▸hb
theorem Bt.cast {G:Ghost} {v:Value} {a b:List Int} (h:a=b) (hb:Bt G v a):Bt G v b:=h▸hb
theorem Jb.of {G:Ghost} {v:Value} {vs:List Value} {l:List (List UInt8)} (h:Sl G v 1 vs.length vs) (h2:LB G vs l):Jb G v l:=⟨vs,by rw [← Cj.length h2];exact h,h2⟩
theorem Cv.ofSl {G:Ghost} {v:Value} {n:Nat} {xs:List Value} {bs:List UInt8} (h:Sl G v 1 n xs) (hn:n=bs.length) (hx:xs=bs.map Kc):Cv G v bs:=by
 subst hn hx;exact h
theorem Jb.ofSl {G:Ghost} {v:Value} {n:Nat} {vs:List Value} {l:List (List UInt8)} (h:Sl G v 1 n vs) (hn:n=l.length) (h2:LB G vs l):Jb G v l:=by
 subst hn;exact ⟨vs,h,h2⟩
def Cr (G:Ghost) (v:Value) (l:List Nat):Prop:=Sl G v 1 l.length (l.map fun x:Nat=>.int .i64 (x:Int))
theorem Cr.mono {G G':Ghost} (h:G.le G') {v:Value} {l:List Nat} (hb:Cr G v l):Cr G' v l:=Sl.mono h hb
theorem Cr.ofSl {G:Ghost} {v:Value} {n:Nat} {xs:List Value} {l:List Nat} (h:Sl G v 1 n xs) (hn:n=l.length) (hx:xs=l.map fun x:Nat=>.int .i64 (x:Int)):Cr G v l:=by
 subst hn hx;exact h
section
variable {x:Cx} {W:World→Prop} {E:Env} {K:Value→Prop} {d:Option Tmp} {ty:TypeId} {pos:String} {aft:Array Edge} {g:Option (Nat×Bool)}
 {c:Ctx} {G:Ghost} {H:List Res} {v:Value} {t e:TypeId} {o q:Operand} {kd:IntKind} {j:Int}
theorem Eo {l:List Nat} (hb:Cr G v l) (i:Nat) (hu:x.P.underlying t=some (.slice e)) (hs:∀ w,(sizeOf e).run x.P w=.ok 1 w) (h1:ev E o=some v) (h2:ev E q=some (.int kd j)) (hj:j=(i:Int)) (hi:i<l.length)
  (k:∀ p,Ft G p=some (.int .i64 ((l[i]:Nat):Int))→K (.pointer (some p))):Y x W ⟨d,.indexAddr t o q,ty,pos,aft,g⟩ E K :=
 Jc i hu hs hb h1 h2 hj (by simp [hi]) k
end
variable {c:Ctx} {G G':Ghost} {H H':List Res} {w w':World}
def Dm (P:Program) (l:Nat) (args:List Value) (G:Ghost) (H:List Res) (R:Value→Ghost→List Res→Prop):Prop :=
 ∀ w,St ⟨w,G,Bl H⟩ G H w→YieldAt (RF none) 0 P l args.toArray w fun e w'=>∃ v G' H',e=.returned v∧St ⟨w,G,Bl H⟩ G' H' w'∧R v G' H'
theorem YieldAt.mono' {F:Fence} {m:Nat} {P:Program} {l:Nat} {args:Array Value} {W:World} {R R':Ending→World→Prop} (h:YieldAt F m P l args W R) (hr:∀ e w,R e w→R' e w):YieldAt F m P l args W R':=by
 obtain ⟨fn,tmps,assign,body,h1,h2⟩:=h
 exact ⟨fn,tmps,assign,body,h1,h2.mono hr⟩
theorem Dm.call {P:Program} {l:Nat} {args:List Value} {H1:List Res} {R:Value→Ghost→List Res→Prop} (h:Dm P l args G H1 R) (hs:St c G (H1++H) w) :
  YieldAt (RF none) 0 P l args.toArray w fun e w'=>∃ v G' H',e=.returned v∧G.le G'∧St c G' (H'++H) w'∧R v G' H':=by
 have hpw:=List.pairwise_append.1 hs.apart
 have h0:St ⟨w,G,Bl H1⟩ G H1 w:=⟨rfl,rfl,rfl,Nat.le_refl _,fun _ _ _=>rfl,gLr G,fun k o hk=>.inl hk,hs.ghost,fun r hr=>hs.hold r (List.mem_append_left _ hr),
  fun r hr k hk=>⟨(hs.off r (List.mem_append_left _ hr) k hk).1,.inr ⟨r,hr,hk⟩⟩,hpw.1,Nat.le_refl _⟩
 refine YieldAt.mono' (h w h0) fun e w' ⟨v,G',H',he,h',hR⟩=>⟨v,G',H',he,h'.le,?_,hR⟩
 refine St.step hs h'.os h'.tape h'.output h'.size (fun k hk hk'=>h'.old k hk (fun ⟨r,hr,hrk⟩=>hk' r hr hrk)) h'.le h'.new (fun k o hk _=>h'.ghost k o hk) h'.hold ?_ h'.apart h'.drn
 intro r hr k hk
 obtain ⟨h1,h2⟩:=h'.off r hr k hk
 exact ⟨h1,h2⟩
theorem nT {P:Program} {N l:Nat} {E:Env} {g:Operand} {ao:List Operand} {ats:Array TypeId} {args:List Value} {H1:List Res} {R:Value→Ghost→List Res→Prop} {d:Option Tmp} {ty:TypeId} {pos:String} {aft:Array Edge} {gd:Option (Nat×Bool)}
  {Q:Exit→Env→World→Prop} {K:Value→World→Prop} (hs:St c G (H1++H) w) (hg:ev E g=some (.func (.yield l) #[] #[])) (ha:ao.map (ev E)=args.map some) (h:Dm P l args G H1 R)
  (kk:∀ v G' H' w',R v G' H'→G.le G'→St c G' (H'++H) w'→K v w'):S ⟨P,N,none⟩ ⟨d,.call { callee:=.value g,args:=ao.toArray,argTypes:=ats },ty,pos,aft,gd⟩ Q K E w:=by
 intro a hA next hn
 have hargs:ao.map a.eval=args:=by
  have:∀ (ao:List Operand) (args:List Value),ao.map (ev E)=args.map some→ao.map a.eval=args:=by
   intro ao
   induction ao with
   | nil=>intro args h;cases args with
    | nil=>rfl
    | cons _ _=>cases h
   | cons o ao ih =>
    intro args h
    cases args with
    | nil=>cases h
    | cons v args =>
     simp only [List.map_cons,List.cons.injEq] at h
     simp [hA.ev h.1,ih args h.2]
  exact this ao args ha
 obtain ⟨fn,tmps,assign,body,hy,hR⟩:=h.call hs
 refine ⟨fun _ _=>trivial,?_⟩
 rw [Oper.semAt_eq _ _ _ (fun c hc=>by cases hc)]
 have hr:(execOp a.eval ⟨d,.call { callee:=.value g,args:=ao.toArray,argTypes:=ats },ty,pos,aft,gd⟩).run P w=.ok (.round l fn tmps assign body) w:=by
  simp [execOp,resolve,Deferred.ofValue,hA.ev hg,invoke,hargs,hy]
 rw [hr]
 refine ⟨fun h=>gK,?_⟩
 refine RoundIn.mono hR ?_
 intro e w' he
 obtain ⟨v,G',H',rfl,hle,hs',hR⟩:=he
 exact hn _ _ (kk v G' H' w' hR hle hs')
@[reducible] def nm (K:Env→World→Prop):Exit→Env→World→Prop
 | .normal,E,w=>K E w
 | _,_,_=>False
theorem Ag.params {N:Nat}:∀ (ps:List (Nat×Value)) {L:List (Nat×Value)} {t:Array Value},Ag N ⟨[],L⟩ { tmps:=t,defers:=[] }→(∀ p∈ps,p.1<N) →
  Ag N ⟨[],ps.reverse++L⟩ { tmps:=ps.foldl (fun t (p:Nat×Value)=>t.setIfInBounds p.1 p.2) t,defers:=[] }
 | [],L,t,h,_=>h
 | (p,v)::ps,L,t,h,hp=>by
  have h1:=h.put (some p) v (fun q hq=>by cases hq;exact hp (p,v) Dr)
  have h2:=Ag.params ps (L:=(p,v)::L) (t:=t.setIfInBounds p v) h1 (fun q hq=>hp q (by simp [hq]))
  simpa using h2
theorem Dm.of_T {P:Program} {N l:Nat} {rec:Loop} {args:List Value} {ps:List Nat} {L:List (Nat×Value)} {H:List Res} {R:Value→Ghost→List Res→Prop}
  (hA:Ag N ⟨[],L⟩ { tmps:=rec.tmps,defers:=[] }) (hps:rec.params=ps.toArray) (hn:args.length=ps.length) (hN:∀ p∈ps,p<N) (hr:rec.state=.ready)
  (h:∀ w0,St ⟨w0,G,Bl (.obj l (.loop rec)::H)⟩ G (.obj l (.loop rec)::H) w0 →
   T ⟨P,N,some l⟩ rec.assign (nm fun E1 w1=>St ⟨w0,G,Bl (.obj l (.loop rec)::H)⟩ G (.obj l (.loop rec)::H) w1 ∧
    ∀ w2,St ⟨w0,G,Bl (.obj l (.loop rec)::H)⟩ G (.obj l (.loop { rec with state:=.busy })::H) w2 →
     T ⟨P,N,some l⟩ rec.body (nm fun _ w3=>∃ G3 H3,St ⟨w0,G,Bl (.obj l (.loop rec)::H)⟩ G3 (.obj l (.loop { rec with state:=.busy })::H3) w3∧R (.bool true) G3 (.obj l (.loop { rec with state:=.ready,pending:=none })::H3)) E1 w2)
    ⟨[],(ps.zip args).reverse++L⟩ w0):Dm P l args G (.obj l (.loop rec)::H) R:=by
 intro w hs
 have hl:w.heap[l]?=some (.loop rec):=hs.hold (.obj l (.loop rec)) Dr
 have hy:=run_yield (P:=P) (args:=args.toArray) hl (by rw [hps];simpa using hn)
 rw [hps] at hy
 refine ⟨_,_,_,_,hy,?_⟩
 refine roundIn_of_wpIn (by trivial) ?_
 have hAp:Ag N ⟨[],(ps.zip args).reverse++L⟩ { tmps:=(ps.zip args).foldl (fun t (p:Nat×Value)=>t.setIfInBounds p.1 p.2) rec.tmps,defers:=[] } :=
  Ag.params (ps.zip args) hA (fun p hp=>hN _ (List.of_mem_zip hp).1)
 have h1:=h w hs _ hAp
 have e1:(ps.toArray.zip args.toArray).foldl (fun tmps x=>match x with | (t,a)=>tmps.setIfInBounds t a) rec.tmps=(ps.zip args).foldl (fun t (p:Nat×Value)=>t.setIfInBounds p.1 p.2) rec.tmps:=by
  rw [List.zip_toArray,List.foldl_toArray]
 rw [e1]
 refine wpIn_mono h1 ?_
 rintro e a1 w1 ⟨E1,hE1,hq⟩
 cases e<;>try exact hq.elim
 obtain ⟨hs1,hb⟩:=hq
 have hl1:w1.heap[l]?=some (.loop rec):=hs1.hold (.obj l (.loop rec)) Dr
 have hlt1:=Dk hl1
 refine ⟨_,run_beginRound hl1 hr,?_⟩
 have hs2:St ⟨w,G,Bl (.obj l (.loop rec)::H)⟩ G (.obj l (.loop { rec with state:=.busy })::H) (w1.putObj l (.loop { rec with state:=.busy })) :=
  hs1.write rfl rfl rfl Dr (fun k _ hk=>World.putObj_heap_other hk) (World.putObj_heap_same hlt1) (fun k hk=>.inl hk)
 refine wpIn_mono (hb _ hs2 a1 hE1) ?_
 rintro e a3 w3 ⟨E3,hE3,hq⟩
 cases e<;>try exact hq.elim
 obtain ⟨G3,H3,hs3,hR⟩:=hq
 have hl3:w3.heap[l]?=some (.loop { rec with state:=.busy }):=hs3.hold (.obj l (.loop { rec with state:=.busy })) Dr
 refine ⟨_,_,run_endRound none hl3,.bool true,G3,_,rfl,?_,hR⟩
 exact hs3.write rfl rfl rfl Dr (fun k _ hk=>World.putObj_heap_other hk) (World.putObj_heap_same (Dk hl3)) (fun k hk=>.inl hk)
theorem Nu {P:Program} {N gf:Nat} {E:Env} {g:Operand} {ps:Array Tmp} {assign body:Code} {Q:Exit→Env→World→Prop} {lb:List Value} {fn:Func} {H1:List Res} {R:Ghost→List Res→Prop}
  (hs : St c G (H1 ++ H) w) (hg : ev E g = some (.func (.func gf) #[] lb.toArray)) (hfn : P.funcs[gf]? = some fn) (hb : fn.body.isSome = true) (hnm : (fn.name == "runtime.NumGoroutine") = false)
  (hit:∀ (l D:Nat) (rec:Loop),rec.params=ps→rec.assign=assign→rec.body=body→rec.state=.ready→rec.pending=none→Ag N ⟨[],E.l⟩ { tmps:=rec.tmps,defers:=[] } →
   Ai P gf (.func (.yield l) #[] #[]::lb) G (.obj l (.loop rec)::.obj D (.deferred (some []))::H1) fun _ G' H'=>∃ H2,H'=.obj l (.loop rec)::.obj D (.deferred (some []))::H2∧R G' H2)
  (kk:∀ (l D:Nat) o G' H2 w',R G' H2→G.le G'→St c G' (.obj D (.deferred (some []))::.obj l o::(H2++H)) w'→Q .normal ⟨{ target:=.collected D,args:=#[] }::E.d,E.l⟩ w') :
  T ⟨P,N,none⟩ (.rangeFunc g ps assign body) Q E w:=by
 intro a hA
 refine wpIn_rangeFunc fun f _=>?_
 obtain ⟨rec,hrec⟩:∃ rec:Loop,rec={ state:=.ready,pending:=none,fn:=f,tmps:=a.tmps,params:=ps,assign,body,defers:=w.heap.size }:=⟨_,rfl⟩
 have hs1:St c G (.obj w.heap.size (.deferred (some []))::(H1++H)) (w.alloc (.deferred (some []))):=hs.alloc _ (World.alloc_heap_new w _) (fun k hk=>hk)
 have hs2:St c G (.obj (w.heap.size+1) (.loop rec)::.obj w.heap.size (.deferred (some []))::(H1++H)) ((w.alloc (.deferred (some []))).alloc (.loop rec)):=by
  have h0:(w.alloc (.deferred (some []))).heap.size=w.heap.size+1:=by simp
  refine hs1.alloc _ ?_ (fun k hk=>by rw [h0];exact hk)
  show ((w.alloc (.deferred (some []))).alloc (.loop rec)).heap[w.heap.size+1]?=_
  rw [← h0];exact World.alloc_heap_new _ _
 have hcall:=(hit (w.heap.size+1) w.heap.size rec Z53 Z53 Z53 Z53 Z53 (by rw [hrec];exact ⟨hA.size,rfl,hA.look⟩)).call (H:=H) hs2
 have hbn:¬ fn.body=none:=by intro h0;rw [h0] at hb;cases hb
 have hnm' : ¬ fn.name = "runtime.NumGoroutine" := by simpa using hnm
 obtain ⟨W1,hW1⟩:∃ W1,W1=(w.alloc (.deferred (some []))).alloc (.loop rec):=⟨_,rfl⟩
 rw [← hW1] at hcall
 refine ⟨w.heap.size+1,[{ target:=.collected w.heap.size,args:=#[] }],W1,{ target:=.fn (.func gf) lb.toArray,args:=#[.func (.yield (w.heap.size+1)) #[] #[]] },W1,gf,
  #[.func (.yield (w.heap.size+1)) #[] #[]]++lb.toArray,W1,by rw [hW1,hrec];exact run_enterLoop_outer _ _ _ _ _,?_,fun _ _=>trivial,?_,(fun h=>by cases h),?_⟩
 ·simp only [resolve,hA.ev hg]
  simp [go_sem]
 ·simp [invoke,callFunc,hfn,hnm',hbn,go_sem]
 ·have h2:=(callsIn_wide (n:=0)).2 hcall
  have eA:(#[.func (.yield (w.heap.size+1)) #[] #[]]++lb.toArray:Array Value)=(.func (.yield (w.heap.size+1)) #[] #[]::lb).toArray:=by simp
  rw [eA]
  refine CallsIn.mono (F:=RF none) (n:=0-1) h2 ?_
  rintro e w' ⟨v,G',H',rfl,hle,hs',H2,rfl,hR⟩
  have hl:w'.heap[w.heap.size+1]?=some (.loop rec):=hs'.hold (.obj (w.heap.size+1) (.loop rec)) Dr
  refine ⟨none,w'.putObj (w.heap.size+1) (.loop { rec with state:=.exhausted }),by rw [run_endLoop (P:=P) hl (by rw [hrec];simp),show rec.pending=none by rw [hrec]],?_⟩
  have hs'':St c G' (.obj (w.heap.size+1) (.loop rec)::(.obj w.heap.size (.deferred (some []))::H2++H)) w':=hs'
  have hs4:St c G' (.obj (w.heap.size+1) (.loop { rec with state:=.exhausted })::(.obj w.heap.size (.deferred (some []))::H2++H)) (w'.putObj (w.heap.size+1) (.loop { rec with state:=.exhausted })) :=
   hs''.write rfl rfl rfl Dr (fun k _ hk=>World.putObj_heap_other hk) (World.putObj_heap_same (Dk hl)) (fun k hk=>.inl hk)
  have hs5:=hs4.front 1 rfl rfl
  exact ⟨⟨{ target:=.collected w.heap.size,args:=#[] }::E.d,E.l⟩,⟨hA.size,by simp [hA.defs],hA.look⟩,kk _ _ _ G' H2 _ hR hle (by simpa using hs5)⟩
def nU:List Deferred→World→World→Prop
 | [],w,w'=>w'=w
 | d::ds,w,w'=>∃ D,d={ target:=.collected D,args:=#[] }∧w.heap[D]?=some (.deferred (some []))∧nU ds (w.putObj D (.deferred none)) w'
def RtM (P:Program) (N:Nat) (fn:Func) (R:Value→World→Prop):Exit→Env→World→Prop
 | .normal,E,w|.ret,E,w=>∃ w',nU E.d w w'∧∃ v,(∀ a,Ag N E a→(results fn a.tmps).run P w'=.ok v w')∧R v w'
 | _,_,_=>False
theorem Rl {P:Program} {fn:Func} {tmps:Array Value} {R:Ending→World→Prop} {v:Value}:∀ (ds:List Deferred) (w w':World),nU ds w w'→(results fn tmps).run P w'=.ok v w'→R (.returned v) w' →
  LeavesInM (RF none) 0 P fn tmps R ds .returning w
 | [],w,w',h,hr,hR=>by
  obtain rfl:w'=w:=h
  exact ⟨v,hr,hR⟩
 | d::ds,w,w',⟨D,hd,hD,hm⟩,hr,hR=>⟨by simp,.inl ⟨D,_,by rw [hd],run_takeDeferred hD,Rl ds _ w' hm hr hR⟩⟩
theorem gR {P:Program} {f:FuncId} {fn:Func} {N:Nat} {c:Code} {args:List Value} {w:World} {R:Value→World→Prop} {L:List (Nat×Value)}
  (hf:P.funcs[f]?=some fn) (hb:fn.body=some c) (hN:fn.ntmps=N) (hn:args.length≤N) (hL:Mu 0 args=L)
  (h:T ⟨P,N,none⟩ c (RtM P N fn R) ⟨[],L⟩ w):Calls P f args.toArray w fun e w'=>∃ v,e=.returned v∧R v w':=by
 subst hL
 refine (callsIn_wide (n:=0)).1 (callsIn_of_wp_marks hf hb trivial ?_ rfl)
 have ha:Ag N ⟨[],Mu 0 args⟩ { tmps:=args.toArray++Array.replicate (fn.ntmps-args.toArray.size) undef,defers:=[] }:=by
  refine ⟨by simp [hN];omega,rfl,fun t v ht=>?_⟩
  obtain ⟨_,h2⟩:=Oy args 0 t v ht
  have hlt:t<args.length:=by
   rcases Nat.lt_or_ge t args.length with h' | h'
   ·exact h'
   ·rw [List.getElem?_eq_none Dz] at h2;cases h2
  rw [Array.getElem?_append_left (by simpa using hlt)]
  simpa using h2
 refine wpIn_mono (h _ ha) ?_
 rintro e a' w' ⟨E,hE,hq⟩
 cases e<;>simp only [RtM] at hq<;>try exact hq.elim
 all_goals
  obtain ⟨w2,hd,v,hv,hR⟩:=hq
  have:=Rl (R:=fun e w'=>∃ v,e=.returned v∧R v w') _ _ _ hd (hv a' hE) ⟨v,rfl,hR⟩
  rw [← hE.defs] at this
  exact this
theorem Ai.of_TM {P:Program} {f:FuncId} {fn:Func} {N:Nat} {c:Code} {args:List Value} {G:Ghost} {H:List Res} {R:Value→Ghost→List Res→Prop} (L:List (Nat×Value))
  (hf:P.funcs[f]?=some fn) (hb:fn.body=some c) (hN:fn.ntmps=N) (hn:args.length≤N) (hL:Mu 0 args=L)
  (h:∀ w,St ⟨w,G,Bl H⟩ G H w→T ⟨P,N,none⟩ c (RtM P N fn fun v w'=>∃ G' H',St ⟨w,G,Bl H⟩ G' H' w'∧R v G' H') ⟨[],L⟩ w):Ai P f args G H R:=fun w hw =>
 (gR hf hb hN hn hL (h w hw)).mono fun _ _ ⟨v,he,G',H',hs,hR⟩=>⟨v,G',H',he,hs,hR⟩
theorem nV {P:Program} {N D:Nat} {E:Env} {w:World} {fn:Func} {rs:List ResultVar} {vs:List Value} {R:Value→World→Prop} (hs:St c G (.obj D (.deferred (some []))::H) w) (hr:fn.results=rs.toArray)
  (hd:E.d=[{ target:=.collected D,args:=#[] }]) (h:∀ w',St c G H w'→Cj (Mv P E w') rs vs∧R (tup vs) w'):RtM P N fn R .ret E w:=by
 have hD:w.heap[D]?=some (.deferred (some [])):=hs.hold (.obj D (.deferred (some []))) Dr
 have h2:St c G (.obj D (.deferred none)::H) (w.putObj D (.deferred none)) :=
  hs.write rfl rfl rfl Dr (fun k _ hk=>World.putObj_heap_other hk) (World.putObj_heap_same (Dk hD)) (fun k hk=>.inl hk)
 obtain ⟨h3,h4⟩:=h _ h2.drop
 exact ⟨_,by rw [hd];exact ⟨D,rfl,hD,rfl⟩,_,Kr hr h3,h4⟩
theorem Dn {x:Cx} {W:World→Prop} {E:Env} {K:Value→Prop} {d:Option Tmp} {ty:TypeId} {pos:String} {aft:Array Edge} {g:Option (Nat×Bool)} {f:FuncId} {caps:List Operand} {vs:List Value}
  (h:caps.map (ev E)=vs.map some) (k:K (.func (.func f) #[] vs.toArray)):Y x W ⟨d,.makeFunc (.func f) #[] caps.toArray,ty,pos,aft,g⟩ E K :=
 De (v:=.func (.func f) #[] vs.toArray) (fun a ha w _=>by
  have:∀ (ao:List Operand) (args:List Value),ao.map (ev E)=args.map some→ao.map a.eval=args:=by
   intro ao
   induction ao with
   | nil=>intro args h;cases args with
    | nil=>rfl
    | cons _ _=>cases h
   | cons o ao ih =>
    intro args h
    cases args with
    | nil=>cases h
    | cons v args =>
     simp only [List.map_cons,List.cons.injEq] at h
     simp [ha.ev h.1,ih args h.2]
  simp [execOp,Instr.makeFunc,this caps vs h]) k
def Cell (G:Ghost) (b:Nat) (v:Value):Prop:=Ft G ⟨b,0,none⟩=some v
theorem Cell.mono {G G':Ghost} (h:G.le G') {b:Nat} {v:Value} (hc:Cell G b v):Cell G' b v:=Kb h hc
theorem St.fixBlk {b e:Nat} {cs:List Value} (hs:St c G (.blk b e cs::H) w) (hM:∀ k,(Res.blk b e cs).foot k→¬ c.M k):∃ G',G.le G'∧(∀ (i:Nat) (v:Value),cs[i]?=some v→Ft G' ⟨b,i,none⟩=some v)∧St c G' H w:=by
 obtain ⟨G',h1,h2,h3⟩:=hs.freeze hM
 refine ⟨G',h1,fun i v hv=>?_,h3⟩
 have h4:G' b=some (.cells cs.toArray e (0,0)):=(h2 b rfl).trans (hs.hold (.blk b e cs) Dr)
 simp [Ft,h4,hv]
theorem Ht {w:World} {G:Ghost}:∀ k,¬ (⟨w,G,Bl []⟩:Ctx).M k:=fun _ h=>by
 obtain ⟨r,hr,_⟩:=h
 cases hr
theorem noMh {w0:World} {G0:Ghost} {r:Res} {H0:List Res} (hs:St ⟨w0,G0,Bl H0⟩ G (r::H) w) (h:Cj (fun s s':Res=>∀ k,s.foot k→s'.foot k) H0 H):∀ k,r.foot k→¬ (⟨w0,G0,Bl H0⟩:Ctx).M k:=by
 intro k hk ⟨s,hs',hsk⟩
 have key:∀ (H0 H:List Res),Cj (fun s s':Res=>∀ k,s.foot k→s'.foot k) H0 H→s∈H0→∃ s'∈H,s'.foot k:=by
  intro H0
  induction H0 with
  | nil=>intro H _ h;cases h
  | cons a H0 ih =>
   intro H h hm
   cases H with
   | nil=>exact h.elim
   | cons b H =>
    rcases List.mem_cons.1 hm with rfl | hm
    ·exact ⟨b,by simp,h.1 k hsk⟩
    ·obtain ⟨s',h1,h2⟩:=ih H h.2 hm
     exact ⟨s',by simp [h1],h2⟩
 obtain ⟨s',h1,h2⟩:=key H0 H h hs'
 exact (List.pairwise_cons.1 hs.apart).1 _ h1 k hk h2
section
variable {x:Cx} {Q:Exit→Env→World→Prop} {E:Env} {K:Value→World→Prop} {d:Option Tmp} {ty:TypeId} {pos:String} {aft:Array Edge} {g:Option (Nat×Bool)}
theorem Fx {o p:Operand} {t e:TypeId} {kd kd':IntKind} {u:Value} {bytes n m:Nat} (hs:St c G H w) (ht:x.P.underlying t=some (.slice e)) (hi:TI x.P e u 1 bytes) (hu:u.cells=#[u])
  (ho:ev E o=some (.int kd (n:Int))) (hp:ev E p=some (.int kd' (m:Int))) (hnm:n≤m) (hb:bytes*m≤281474976710656) (hm:m≤281474976710656)
  (kk:∀ b w',St c G (.row e 1 (.slice (some ⟨b,0,none⟩) n m) n (List.replicate n u)::H) w'→K (.slice (some ⟨b,0,none⟩) n m) w'):S x ⟨d,.makeSlice t o p,ty,pos,aft,g⟩ Q K E w:=by
 obtain ⟨i,hi,hz,hik,hib⟩:=hi
 have hr:=run_make (P:=x.P) w t e i u ht hi hz kd kd' (n:Int) (m:Int) Dz Dz (by
  rw [hib]
  have h:((bytes*m:Nat):Int)≤281474976710656:=by omega
  rwa [Int.natCast_mul] at h) Dz
 simp only [Int.toNat_natCast,hik,Nat.mul_one] at hr
 have hmc:(madeCells u.cells m).toList=List.replicate m u:=by
  rw [hu]
  apply List.ext_getElem
  ·simp [madeCells]
  ·intro j h1 h2
   have hj:j<m:=by simpa using h2
   simp [madeCells,Nat.mod_one]
 have hrow:Res.holds (w.alloc (.cells (madeCells u.cells m) e)) (.row e 1 (.slice (some ⟨w.heap.size,0,none⟩) n m) n (List.replicate n u)):=by
  refine ⟨by simp,.inr ⟨_,_,_,rfl,Nat.zero_le _,heap_alloc_new w _,hnm,by unfold maxLen;omega,by rw [size_madeCells,Nat.mul_one],?_⟩⟩
  rw [hmc,Nat.mul_one,List.take_replicate,Nat.min_eq_left hnm]
 refine Jm rfl fun a ha=>⟨_,_,?_,kk w.heap.size _ (hs.alloc _ hrow (fun j hj=>by
  have:w.heap.size=j:=by simpa [Res.foot,Value.ownBlock] using hj
  exact this.symm))⟩
 simp only [execOp,ha.ev ho,ha.ev hp]
 simp [hr]
end
section
variable {x:Cx} {W:World→Prop} {E:Env} {K:Value→Prop} {d:Option Tmp} {ty:TypeId} {pos:String} {aft:Array Edge} {g:Option (Nat×Bool)} {c:Ctx} {G:Ghost} {H:List Res}
theorem Du {o q:Operand} {t e:TypeId} {kd:IntKind} {n s b off m:Nat} {j:Int} (i:Nat) (hu:x.P.underlying t=some (.array n e)) (hs:∀ w,(sizeOf e).run x.P w=.ok s w)
  (h1:ev E o=some (.pointer (some ⟨b,off,none⟩))) (h2:ev E q=some (.int kd j)) (hj:j=(i:Int)) (hlt:i<n) (hm:off+i*s=m)
  (k:K (.pointer (some ⟨b,m,none⟩))):Y x W ⟨d,.indexAddr t o q,ty,pos,aft,g⟩ E K:=by
 subst hj hm
 refine De (v:=.pointer (some ⟨b,off+i*s,none⟩)) (fun f hf w _=>?_) k
 have ha:(⟨b,off,none⟩:Addr).add (i*s)=⟨b,off+i*s,none⟩:=by
  unfold Addr.add;split
  ·rename_i h0;simp [h0]
  ·rfl
 simp [execOp,hf.ev h1,hf.ev h2,Instr.indexAt,asIntOf,run_underlying hu,hs w,hlt,Instr.sureAddr,ha]
theorem Bj {o q:Operand} {t e:TypeId} {kd:IntKind} {n cap b:Nat} {j:Int} (i:Nat) (hu:x.P.underlying t=some (.slice e)) (hs:∀ w,(sizeOf e).run x.P w=.ok 1 w)
  (h1:ev E o=some (.slice (some ⟨b,0,none⟩) n cap)) (h2:ev E q=some (.int kd j)) (hj:j=(i:Int)) (hlt:i<n)
  (k:K (.pointer (some ⟨b,i,none⟩))):Y x W ⟨d,.indexAddr t o q,ty,pos,aft,g⟩ E K:=by
 subst hj
 refine De (v:=.pointer (some ⟨b,i,none⟩)) (fun f hf w _=>?_) k
 have ha:(⟨b,0,none⟩:Addr).add (i*1)=⟨b,i,none⟩:=by
  rw [Nat.mul_one]
  unfold Addr.add;split
  ·rename_i h0;simp [h0]
  ·simp
 simp [execOp,hf.ev h1,hf.ev h2,Instr.indexAt,asIntOf,run_underlying hu,hs w,hlt]
 rw [← Nat.mul_one i,ha,Nat.mul_one]
end
section
variable {x:Cx} {Q:Exit→Env→World→Prop} {E:Env} {K:Value→World→Prop} {w:World} {d:Option Tmp} {ty:TypeId} {pos:String} {aft:Array Edge} {g:Option (Nat×Bool)} {c:Ctx} {G:Ghost} {H:List Res}
theorem Ct {o p:Operand} {t b i e n cap:Nat} {v:Value} {xs:List Value} (hs:St c G (.row e 1 (.slice (some ⟨b,0,none⟩) n cap) n xs::H) w) (hS:∀ w,(sizeOf t).run x.P w=.ok 1 w) (h1:ev E o=some (.pointer (some ⟨b,i,none⟩))) (h2:ev E p=some v)
  (hone:v.oneCell'=true) (hi:i<n) (k:∀ w',St c G (.row e 1 (.slice (some ⟨b,0,none⟩) n cap) n (xs.set i v)::H) w'→K undef w'):S x ⟨d,.store t o p,ty,pos,aft,g⟩ Q K E w:=by
 have hown:w.ownsRow 0 e 1 (.slice (some ⟨b,0,none⟩) n cap) n xs:=hs.hold (.row e 1 _ n xs) Dr
 rcases hown.2 with ⟨h,_⟩ | ⟨g',cp,cur,h,h0,hh,hnc,hcm,hsz,htk⟩
 ·cases h
 injection h with h1' h2' h3'
 injection h1' with h1'
 injection h1' with h1'
 subst h1' h3'
 rw [Nat.mul_one] at hsz htk
 have hb:St c G (.blk b e cur.toList::H) w:=hs.write rfl rfl rfl (Nat.le_refl _) (fun _ _ _=>rfl) (by simpa [Res.holds] using hh) (fun k hk=>.inl Z23)
 refine Hs hb hS h1 h2 hone (by rw [Array.length_toList];omega) rfl fun w' hs'=>k w' ?_
 have hh':w'.heap[b]?=some (.cells (cur.toList.set i v).toArray e (0,0)):=hs'.hold (.blk b e _) Dr
 refine hs'.write rfl rfl rfl (Nat.le_refl _) (fun _ _ _=>rfl) ⟨by rw [List.length_set];exact hown.1,.inr ⟨b,cap,_,rfl,h0,hh',hnc,hcm,by simp [hsz],?_⟩⟩ (fun k hk=>.inl (by
  have h9:b=k:=by simpa [Res.foot,Value.ownBlock] using hk
  exact h9.symm))
 rw [Nat.mul_one,← htk]
 simp [List.take_set]
end
theorem Xu {x:Cx} {Q:Exit→Env→World→Prop} {E:Env} {w:World} {c d:Code} (I:Env→World→Prop)
  (h:T x c (sq (fun E w=>∃ L,Ja L E.l∧I ⟨E.d,L⟩ w) Q) E w) (h2:∀ E w,I E w→T x d Q E w):T x (.seq c d) Q E w:=by
 refine T_seq (lA h fun e E w hq=>?_)
 cases e with
 | normal=>obtain ⟨L,hs,hI⟩:=hq;exact Xb L hs (h2 _ _ hI)
 | _=>exact hq
theorem Wd {x:Cx} {Q:Exit→Env→World→Prop} {E:Env} {w:World} {c:Code} (I:Env→World→Prop)
  (h:T x c (sq (fun E w=>∃ L,Ja L E.l∧I ⟨E.d,L⟩ w) Q) E w) (h2:∀ D M L w,Ja L M→I ⟨D,L⟩ w→Q .normal ⟨D,M⟩ w):T x c Q E w:=by
 refine lA h fun e E w hq=>?_
 cases e with
 | normal=>obtain ⟨L,hs,hI⟩:=hq;exact h2 _ _ _ _ hs hI
 | _=>exact hq
theorem evals {N:Nat} {E:Env} {a:Act} (hA:Ag N E a):∀ (ao:List Operand) (args:List Value),ao.map (ev E)=args.map some→ao.map a.eval=args:=by
 intro ao
 induction ao with
 | nil=>intro args h;cases args with
  | nil=>rfl
  | cons _ _=>cases h
 | cons o ao ih =>
  intro args h
  cases args with
  | nil=>cases h
  | cons v args =>
   simp only [List.map_cons,List.cons.injEq] at h
   simp [hA.ev h.1,ih args h.2]
section
variable {x:Cx} {Q:Exit→Env→World→Prop} {E:Env} {K:Value→World→Prop} {w:World} {d:Option Tmp} {ty:TypeId} {pos:String} {aft:Array Edge} {g:Option (Nat×Bool)} {c:Ctx} {G:Ghost} {H:List Res}
theorem Cb {f:FuncId} {cl:Operand} {ao:List Operand} {ats:Array TypeId} {args lb:List Value} {H1:List Res} {R:Value→Ghost→List Res→Prop} {fn:Func} (hs:St c G (H1++H) w) (hc:ev E cl=some (.func (.func f) #[] lb.toArray))
  (ha:ao.map (ev E)=args.map some) (hfn:x.P.funcs[f]?=some fn) (hb:fn.body.isSome=true)
  (hnm : (fn.name == "runtime.NumGoroutine") = false) (h : Ai x.P f (args ++ lb) G H1 R)
  (kk:∀ v G' H' w',R v G' H'→G.le G'→St c G' (H'++H) w'→K v w'):S x ⟨d,.call { callee:=.value cl,args:=ao.toArray,argTypes:=ats },ty,pos,aft,g⟩ Q K E w:=by
 intro a hA next hn
 have hargs:=evals hA ao args ha
 refine ⟨fun _ _=>trivial,?_⟩
 rw [Oper.semAt_eq _ _ _ (fun c hc=>by cases hc)]
 have hr:(execOp a.eval ⟨d,.call { callee:=.value cl,args:=ao.toArray,argTypes:=ats },ty,pos,aft,g⟩).run x.P w=.ok (.enter f (args++lb).toArray) w:=by
  have hbn:¬ fn.body=none:=by intro h0;rw [h0] at hb;cases hb
  have hnm' : ¬ fn.name = "runtime.NumGoroutine" := by simpa using hnm
  simp [execOp,resolve,Deferred.ofValue,hA.ev hc,invoke,callFunc,hfn,hnm',hbn,hargs]
 rw [hr]
 refine ⟨fun h=>gK,?_⟩
 have hcall:=h.call hs
 have h2:=(callsIn_wide (n:=0)).2 hcall
 have h3:=CallsIn.mono (F:=RF x.r) (n:=0-1) (R:=_) (R':=fun
   | .returned v,w''=>next (a.put d v) w''
   | .panicked chain,w''=>Tp x.N Q (.panic chain) a w''
   | .outgrown,_=>LetsOut (Tp x.N Q)) h2 (fun e w' he=>by
  obtain ⟨v,G',H',rfl,hle,hs',hR⟩:=he
  exact hn _ _ (kk v G' H' w' hR hle hs'))
 exact h3
theorem Jw {t:TypeId} (hs:St c G H w) (k:∀ b w',St c G (.obj b (.map #[] 0)::H) w'→K (.map (some b)) w'):S x ⟨d,.makeMap t none,ty,pos,aft,g⟩ Q K E w:=by
 refine Jm rfl fun a _=>⟨.map (some w.heap.size),w.alloc (.map #[] 0),?_,k _ _ (hs.alloc _ ?_ (fun k hk=>hk))⟩
 ·simp only [execOp,Option.map_none,Sem.run_bind,run_makeMap_plain,Result.andThen];simp
 ·show (w.alloc _).heap[w.heap.size]?=_
  rw [heap_alloc_new]
def Ko (k v:Value) (c:Nat):MapEntry:={ key:=k,val:=v,born:=c }
theorem noMr {w0:World} {G0:Ghost} {r:Res} {e0 e k0 k1 n0 n:Nat} {v:Value} {xs0 xs:List Value} (i:Nat) (hs:St ⟨w0,G0,Bl [.row e0 k0 v n0 xs0]⟩ G (r::H) w) (hi:H[i]?=some (.row e k1 v n xs)):∀ k,r.foot k→¬ (⟨w0,G0,Bl [.row e0 k0 v n0 xs0]⟩:Ctx).M k:=by
 intro k hk hM
 obtain ⟨s,hs',hsk⟩:=hM
 obtain rfl:s=.row e0 k0 v n0 xs0:=by simpa using hs'
 exact (List.pairwise_cons.1 hs.apart).1 _ (List.mem_of_getElem? hi) k hk hsk
theorem Hd {K:Value→Prop} {o q:Operand} {t e e':TypeId} {kd:IntKind} {n:Nat} {j:Int} {v u:Value} {xs:List Value} (i h:Nat) (hi:H[h]?=some (.row e' 1 v n xs)) (hu:x.P.underlying t=some (.slice e)) (hs:∀ w,(sizeOf e).run x.P w=.ok 1 w)
  (h1:ev E o=some v) (h2:ev E q=some (.int kd j)) (hj:j=(i:Int)) (hlt:i<n) (hx:xs[i]?=some u) (hw0:St c G H w)
  (k:∀ p,(∀ w,St c G H w→w.cell? p=some u)→K (.pointer (some p))):Y x (St c G H) ⟨d,.indexAddr t o q,ty,pos,aft,g⟩ E K:=by
 subst hj
 have hform:∃ b cap,v=.slice (some ⟨b,0,none⟩) n cap:=by
  have hr:w.ownsRow 0 e' 1 v n xs:=hw0.hold (.row e' 1 v n xs) (List.mem_of_getElem? hi)
  rcases hr.2 with ⟨_,h0⟩ | ⟨b,cap,cur,rfl,_⟩
  ·omega
  ·exact ⟨b,cap,rfl⟩
 obtain ⟨b,cap,rfl⟩:=hform
 refine De (v:=.pointer (some ⟨b,i,none⟩)) (fun f hf w _=>?_) (k _ fun w hw=>?_)
 ·have ha:(⟨b,0,none⟩:Addr).add (i*1)=⟨b,i,none⟩:=by
   rw [Nat.mul_one]
   unfold Addr.add;split
   ·rename_i h0;simp [h0]
   ·simp
  simp [execOp,hf.ev h1,hf.ev h2,Instr.indexAt,asIntOf,run_underlying hu,hs w,hlt]
  rw [← Nat.mul_one i,ha,Nat.mul_one]
 ·have hr:w.ownsRow 0 e' 1 (.slice (some ⟨b,0,none⟩) n cap) n xs:=hw.hold (.row e' 1 _ n xs) (List.mem_of_getElem? hi)
  rcases hr.2 with ⟨h0,_⟩ | ⟨b',cap',cur,h0,_,hh,_,_,_,htk⟩
  ·cases h0
  ·injection h0 with h1' h2' h3'
   injection h1' with h1'
   injection h1' with h1'
   subst h1'
   rw [Nat.mul_one] at htk
   rw [← htk,List.getElem?_take_of_lt hlt] at hx
   simpa [World.cell?,hh] using hx
theorem Dq {K:Value→Prop} {o:Operand} {t e e':TypeId} {n sz:Nat} {v:Value} {xs:List Value} (h:Nat) (hi:H[h]?=some (.row e' sz v n xs)) (hu:x.P.underlying t=some (.slice e)) (h1:ev E o=some v) (hw0:St c G H w)
  (k:K (.int .i64 (n:Int))):Y x (St c G H) ⟨d,.call { callee:=.builtin .len,args:=#[o],argTypes:=#[t] },ty,pos,aft,g⟩ E K:=by
 have hr:w.ownsRow 0 e' sz v n xs:=hw0.hold (.row e' sz v n xs) (List.mem_of_getElem? hi)
 rcases hr.2 with ⟨rfl,rfl⟩ | ⟨b,cap,cur,rfl,_⟩
 ·exact uH hu h1 k
 ·exact uH hu h1 k
theorem Iq {K:Value→Prop} {o:Operand} {t:Nat} {p:Addr} {v:Value} (hA:∀ w,(isAgg t).run x.P w=.ok false w) (h:ev E o=some (.pointer (some p)))
  (hp:∀ w,St c G H w→w.cell? p=some v) (k:K v):Y x (St c G H) ⟨d,.load t o,ty,pos,aft,g⟩ E K :=
 De (v:=v) (fun a ha w hw=>by
  have hc:=hp w hw
  simp [execOp,ha.ev h,Instr.loadAt,Instr.sureAddr,loadVar,hA w,hc]) k
end
@[reducible] def yx (J:Option Code→Env→World→Prop):Exit→Env→World→Prop
 | .normal,E,w=>J none E w
 | .ret,E,w=>J (some .ret) E w
 | .exit id,E,w=>J (some (.exit id)) E w
 | _,_,_=>False
theorem Dm.of_TX {P:Program} {G:Ghost} {N l:Nat} {rec:Loop} {args:List Value} {ps:List Nat} {L:List (Nat×Value)} {H:List Res} {R:Value→Ghost→List Res→Prop}
  (hA:Ag N ⟨[],L⟩ { tmps:=rec.tmps,defers:=[] }) (hps:rec.params=ps.toArray) (hn:args.length=ps.length) (hN:∀ p∈ps,p<N) (hr:rec.state=.ready)
  (h:∀ w0,St ⟨w0,G,Bl (.obj l (.loop rec)::H)⟩ G (.obj l (.loop rec)::H) w0 →
   T ⟨P,N,some l⟩ rec.assign (nm fun E1 w1=>St ⟨w0,G,Bl (.obj l (.loop rec)::H)⟩ G (.obj l (.loop rec)::H) w1 ∧
    ∀ w2,St ⟨w0,G,Bl (.obj l (.loop rec)::H)⟩ G (.obj l (.loop { rec with state:=.busy })::H) w2 →
     T ⟨P,N,some l⟩ rec.body (yx fun j _ w3=>∃ G3 H3,St ⟨w0,G,Bl (.obj l (.loop rec)::H)⟩ G3 (.obj l (.loop { rec with state:=.busy })::H3) w3 ∧
      R (.bool j.isNone) G3 (.obj l (.loop { rec with state:=if j.isNone then .ready else .done,pending:=j })::H3)) E1 w2)
    ⟨[],(ps.zip args).reverse++L⟩ w0):Dm P l args G (.obj l (.loop rec)::H) R:=by
 intro w hs
 have hl:w.heap[l]?=some (.loop rec):=hs.hold (.obj l (.loop rec)) Dr
 have hy:=run_yield (P:=P) (args:=args.toArray) hl (by rw [hps];simpa using hn)
 rw [hps] at hy
 refine ⟨_,_,_,_,hy,?_⟩
 refine roundIn_of_wpIn (by trivial) ?_
 have hAp:Ag N ⟨[],(ps.zip args).reverse++L⟩ { tmps:=(ps.zip args).foldl (fun t (p:Nat×Value)=>t.setIfInBounds p.1 p.2) rec.tmps,defers:=[] } :=
  Ag.params (ps.zip args) hA (fun p hp=>hN _ (List.of_mem_zip hp).1)
 have h1:=h w hs _ hAp
 have e1:(ps.toArray.zip args.toArray).foldl (fun tmps x=>match x with | (t,a)=>tmps.setIfInBounds t a) rec.tmps=(ps.zip args).foldl (fun t (p:Nat×Value)=>t.setIfInBounds p.1 p.2) rec.tmps:=by
  rw [List.zip_toArray,List.foldl_toArray]
 rw [e1]
 refine wpIn_mono h1 ?_
 rintro e a1 w1 ⟨E1,hE1,hq⟩
 cases e<;>try exact hq.elim
 obtain ⟨hs1,hb⟩:=hq
 have hl1:w1.heap[l]?=some (.loop rec):=hs1.hold (.obj l (.loop rec)) Dr
 have hlt1:=Dk hl1
 refine ⟨_,run_beginRound hl1 hr,?_⟩
 have hs2:St ⟨w,G,Bl (.obj l (.loop rec)::H)⟩ G (.obj l (.loop { rec with state:=.busy })::H) (w1.putObj l (.loop { rec with state:=.busy })) :=
  hs1.write rfl rfl rfl Dr (fun k _ hk=>World.putObj_heap_other hk) (World.putObj_heap_same hlt1) (fun k hk=>.inl hk)
 refine wpIn_mono (hb _ hs2 a1 hE1) ?_
 have fin:∀ (j:Option Code) w3,(∃ G3 H3,St ⟨w,G,Bl (.obj l (.loop rec)::H)⟩ G3 (.obj l (.loop { rec with state:=.busy })::H3) w3 ∧
      R (.bool j.isNone) G3 (.obj l (.loop { rec with state:=if j.isNone then .ready else .done,pending:=j })::H3)) →
   ∃ v w',(Instr.endRound l j).run P w3=.ok v w'∧∃ v' G' H',Ending.returned v=.returned v'∧St ⟨w,G,Bl (.obj l (.loop rec)::H)⟩ G' H' w'∧R v' G' H':=by
  rintro j w3 ⟨G3,H3,hs3,hR⟩
  have hl3:w3.heap[l]?=some (.loop { rec with state:=.busy }):=hs3.hold (.obj l (.loop { rec with state:=.busy })) Dr
  refine ⟨_,_,run_endRound j hl3,.bool j.isNone,G3,_,rfl,?_,hR⟩
  exact hs3.write rfl rfl rfl Dr (fun k _ hk=>World.putObj_heap_other hk) (World.putObj_heap_same (Dk hl3)) (fun k hk=>.inl hk)
 rintro e a3 w3 ⟨E3,hE3,hq⟩
 cases e with
 | normal=>exact fin none w3 hq
 | ret=>exact fin (some .ret) w3 hq
 | exit id=>exact fin (some (.exit id)) w3 hq
 | _=>exact hq.elim
theorem Rm {P:Program} {c:Ctx} {G:Ghost} {H:List Res} {w:World} {N gf:Nat} {E:Env} {g:Operand} {ps:Array Tmp} {assign body:Code} {Q:Exit→Env→World→Prop} {lb:List Value} {fn:Func} {H1:List Res} {R:Option Code→Ghost→List Res→Prop}
  (hs : St c G (H1 ++ H) w) (hg : ev E g = some (.func (.func gf) #[] lb.toArray)) (hfn : P.funcs[gf]? = some fn) (hb : fn.body.isSome = true) (hnm : (fn.name == "runtime.NumGoroutine") = false)
  (hit:∀ (l D:Nat) (rec:Loop),rec.params=ps→rec.assign=assign→rec.body=body→rec.state=.ready→rec.pending=none→Ag N ⟨[],E.l⟩ { tmps:=rec.tmps,defers:=[] } →
   Ai P gf (.func (.yield l) #[] #[]::lb) G (.obj l (.loop rec)::.obj D (.deferred (some []))::H1) fun _ G' H'=>∃ H2 j st,H'=.obj l (.loop { rec with state:=st,pending:=j })::.obj D (.deferred (some []))::H2∧st≠.busy∧R j G' H2)
  (kk:∀ (l D:Nat) o j G' H2 w',R j G' H2→G.le G'→St c G' (.obj D (.deferred (some []))::.obj l o::(H2++H)) w' →
   match j with
   | none=>Q .normal ⟨{ target:=.collected D,args:=#[] }::E.d,E.l⟩ w'
   | some c=>T ⟨P,N,none⟩ c Q ⟨{ target:=.collected D,args:=#[] }::E.d,E.l⟩ w') :
  T ⟨P,N,none⟩ (.rangeFunc g ps assign body) Q E w:=by
 intro a hA
 refine wpIn_rangeFunc fun f _=>?_
 obtain ⟨rec,hrec⟩:∃ rec:Loop,rec={ state:=.ready,pending:=none,fn:=f,tmps:=a.tmps,params:=ps,assign,body,defers:=w.heap.size }:=⟨_,rfl⟩
 have hs1:St c G (.obj w.heap.size (.deferred (some []))::(H1++H)) (w.alloc (.deferred (some []))):=hs.alloc _ (World.alloc_heap_new w _) (fun k hk=>hk)
 have hs2:St c G (.obj (w.heap.size+1) (.loop rec)::.obj w.heap.size (.deferred (some []))::(H1++H)) ((w.alloc (.deferred (some []))).alloc (.loop rec)):=by
  have h0:(w.alloc (.deferred (some []))).heap.size=w.heap.size+1:=by simp
  refine hs1.alloc _ ?_ (fun k hk=>by rw [h0];exact hk)
  show ((w.alloc (.deferred (some []))).alloc (.loop rec)).heap[w.heap.size+1]?=_
  rw [← h0];exact World.alloc_heap_new _ _
 have hcall:=(hit (w.heap.size+1) w.heap.size rec Z53 Z53 Z53 Z53 Z53 (by rw [hrec];exact ⟨hA.size,rfl,hA.look⟩)).call (H:=H) hs2
 have hbn:¬ fn.body=none:=by intro h0;rw [h0] at hb;cases hb
 have hnm' : ¬ fn.name = "runtime.NumGoroutine" := by simpa using hnm
 obtain ⟨W1,hW1⟩:∃ W1,W1=(w.alloc (.deferred (some []))).alloc (.loop rec):=⟨_,rfl⟩
 rw [← hW1] at hcall
 refine ⟨w.heap.size+1,[{ target:=.collected w.heap.size,args:=#[] }],W1,{ target:=.fn (.func gf) lb.toArray,args:=#[.func (.yield (w.heap.size+1)) #[] #[]] },W1,gf,
  #[.func (.yield (w.heap.size+1)) #[] #[]]++lb.toArray,W1,by rw [hW1,hrec];exact run_enterLoop_outer _ _ _ _ _,?_,fun _ _=>trivial,?_,(fun h=>by cases h),?_⟩
 ·simp only [resolve,hA.ev hg]
  simp [go_sem]
 ·simp [invoke,callFunc,hfn,hnm',hbn,go_sem]
 ·have h2:=(callsIn_wide (n:=0)).2 hcall
  have eA:(#[.func (.yield (w.heap.size+1)) #[] #[]]++lb.toArray:Array Value)=(.func (.yield (w.heap.size+1)) #[] #[]::lb).toArray:=by simp
  rw [eA]
  refine CallsIn.mono (F:=RF none) (n:=0-1) h2 ?_
  rintro e w' ⟨v,G',H',rfl,hle,hs',H2,j,st,rfl,hst,hR⟩
  have hl:w'.heap[w.heap.size+1]?=some (.loop { rec with state:=st,pending:=j }):=hs'.hold (.obj (w.heap.size+1) (.loop { rec with state:=st,pending:=j })) Dr
  refine ⟨j,w'.putObj (w.heap.size+1) (.loop { rec with state:=.exhausted,pending:=j }),by rw [run_endLoop (P:=P) hl hst],?_⟩
  have hs'':St c G' (.obj (w.heap.size+1) (.loop { rec with state:=st,pending:=j })::(.obj w.heap.size (.deferred (some []))::H2++H)) w':=hs'
  have hs4:St c G' (.obj (w.heap.size+1) (.loop { rec with state:=.exhausted,pending:=j })::(.obj w.heap.size (.deferred (some []))::H2++H)) (w'.putObj (w.heap.size+1) (.loop { rec with state:=.exhausted,pending:=j })) :=
   hs''.write rfl rfl rfl Dr (fun k _ hk=>World.putObj_heap_other hk) (World.putObj_heap_same (Dk hl)) (fun k hk=>.inl hk)
  have hs5:=hs4.front 1 rfl rfl
  have hAg:Ag N ⟨{ target:=.collected w.heap.size,args:=#[] }::E.d,E.l⟩ { a with defers:=[{ target:=.collected w.heap.size,args:=#[] }]++a.defers }:=⟨hA.size,by simp [hA.defs],hA.look⟩
  have hk:=kk (w.heap.size+1) w.heap.size _ j G' H2 _ hR hle (by simpa using hs5)
  cases j with
  | none=>exact ⟨_,hAg,hk⟩
  | some c=>exact hk _ hAg
abbrev W64:Nat:=18446744073709551616
def Af (n:Nat):Value:=.int .u64 (n:Int)
def Ei (a b:Nat):Nat:=a % W64 &&& b % W64
def Xv (a b:Nat):Nat:=a % W64 ||| b % W64
def Mw (a b:Nat):Nat:=a % W64 ^^^ b % W64
def cP (a b:Nat):Nat:=(a+b) % W64
def Lj (a b:Nat):Nat:=(a+(W64-b % W64)) % W64
def nW (a b:Nat):Nat:=(a*b) % W64
theorem Ir (a:Nat):(BitVec.ofInt 64 (a:Int)).toNat=a % W64:=by
 rw [BitVec.toNat_ofInt];norm_cast
theorem Ma (n:Nat):IntKind.u64.wrap (n:Int)=((n % W64:Nat):Int):=by rw [IntKind.wrap_u64];simp [W64]
theorem Nv (a b:Nat):Ei a b<W64:=Nat.and_lt_two_pow (n:=64) _ (Nat.mod_lt _ (by decide))
theorem nX (a b:Nat):Xv a b<W64:=Nat.or_lt_two_pow (n:=64) (Nat.mod_lt _ (by decide)) (Nat.mod_lt _ (by decide))
theorem Xw (a b:Nat):Mw a b<W64:=Nat.xor_lt_two_pow (n:=64) (Nat.mod_lt _ (by decide)) (Nat.mod_lt _ (by decide))
theorem uM (a b:Nat):Px .and .u64 (a:Int) (b:Int)=((Ei a b:Nat):Int):=by
 show IntKind.u64.wrap ((BitVec.ofInt 64 (a:Int) &&& BitVec.ofInt 64 (b:Int)).toNat:Int)=_
 rw [BitVec.toNat_and,Ir,Ir,Ma]
 exact congrArg Nat.cast (Nat.mod_eq_of_lt (Nv a b))
theorem bits_or (a b:Nat):Px .or .u64 (a:Int) (b:Int)=((Xv a b:Nat):Int):=by
 show IntKind.u64.wrap ((BitVec.ofInt 64 (a:Int) ||| BitVec.ofInt 64 (b:Int)).toNat:Int)=_
 rw [BitVec.toNat_or,Ir,Ir,Ma]
 exact congrArg Nat.cast (Nat.mod_eq_of_lt (nX a b))
theorem uN (a b:Nat):Px .xor .u64 (a:Int) (b:Int)=((Mw a b:Nat):Int):=by
 show IntKind.u64.wrap ((BitVec.ofInt 64 (a:Int) ^^^ BitVec.ofInt 64 (b:Int)).toNat:Int)=_
 rw [BitVec.toNat_xor,Ir,Ir,Ma]
 exact congrArg Nat.cast (Nat.mod_eq_of_lt (Xw a b))
theorem uO (a b:Nat):IntKind.u64.wrap ((a:Int)+(b:Int))=((cP a b:Nat):Int):=by rw [← Int.natCast_add,Ma];rfl
theorem uP (a b:Nat):IntKind.u64.wrap ((a:Int)*(b:Int))=((nW a b:Nat):Int):=by rw [← Int.natCast_mul,Ma];rfl
theorem gS (a b:Nat):IntKind.u64.wrap ((a:Int)-(b:Int))=((Lj a b:Nat):Int):=by
 rw [IntKind.wrap_u64];unfold Lj W64;omega
theorem shl_one (k:Nat) (hk:k<64):IntKind.u64.wrap (1*2 ^ (min ((k:Int)).toNat IntKind.u64.bits))=((2 ^ k:Nat):Int):=by
 have h1:min ((k:Int)).toNat IntKind.u64.bits=k:=by show min ((k:Int)).toNat 64=k;omega
 rw [h1,Int.one_mul,show ((2:Int) ^ k)=((2 ^ k:Nat):Int) by push_cast;rfl,Ma,Nat.mod_eq_of_lt]
 exact Nat.pow_lt_pow_right (by decide) hk
theorem shr_pow (a k:Nat) (hk:k<64):(a:Int).fdiv (2 ^ (min ((k:Int)).toNat IntKind.u64.bits))=((a / 2 ^ k:Nat):Int):=by
 have h1:min ((k:Int)).toNat IntKind.u64.bits=k:=by show min ((k:Int)).toNat 64=k;omega
 rw [h1,Int.fdiv_eq_ediv_of_nonneg _ (Int.pow_nonneg (by decide))]
 push_cast;rfl
section
variable {x:Cx} {W:World→Prop} {E:Env} {K:Value→Prop} {d:Option Tmp} {ty:TypeId} {pos:String} {aft:Array Edge} {g:Option (Nat×Bool)} {c:Ctx} {G:Ghost} {H:List Res} {xt yt:TypeId} {o p:Operand} {a b:Nat}
theorem Hu (h1:ev E o=some (Af a)) (h2:ev E p=some (Af b)) (k:K (Af (Ei a b))):Y x W ⟨d,.binOp .and xt o p yt,ty,pos,aft,g⟩ E K:=Xi h1 h2 Dr (uM a b) k
theorem Tw (h1:ev E o=some (Af a)) (h2:ev E p=some (Af b)) (k:K (Af (Xv a b))):Y x W ⟨d,.binOp .or xt o p yt,ty,pos,aft,g⟩ E K:=Xi h1 h2 Dr (bits_or a b) k
theorem Pa (h1:ev E o=some (Af a)) (h2:ev E p=some (Af b)) (k:K (Af (cP a b))):Y x W ⟨d,.binOp .add xt o p yt,ty,pos,aft,g⟩ E K:=lC h1 h2 (by rw [uO];exact k)
theorem Y_sub64 (h1:ev E o=some (Af a)) (h2:ev E p=some (Af b)) (k:K (Af (Lj a b))):Y x W ⟨d,.binOp .sub xt o p yt,ty,pos,aft,g⟩ E K:=uF h1 h2 (by rw [gS];exact k)
theorem Y_mul64 (h1:ev E o=some (Af a)) (h2:ev E p=some (Af b)) (k:K (Af (nW a b))):Y x W ⟨d,.binOp .mul xt o p yt,ty,pos,aft,g⟩ E K:=lD h1 h2 (by rw [uP];exact k)
theorem Jp {kd:IntKind} (k':Nat) (hk':k'<64) (h1:ev E o=some (Af a)) (h2:ev E p=some (.int kd (k':Int))) (k:K (Af (a / 2 ^ k'))):Y x W ⟨d,.binOp .shr xt o p yt,ty,pos,aft,g⟩ E K :=
 cN h1 h2 Dz (shr_pow a k' hk') k
theorem eH {kd:IntKind} (k':Nat) (hk':k'<64) (h1:ev E o=some (Af 1)) (h2:ev E p=some (.int kd (k':Int))) (k:K (Af (2 ^ k'))):Y x W ⟨d,.binOp .shl xt o p yt,ty,pos,aft,g⟩ E K :=
 Y_shl h1 h2 Dz (shl_one k' hk') k
theorem qX (h:ev E o=some (Af a)) (k:K (Af (Mw 18446744073709551615 a))):Y x W ⟨d,.unOp .xor xt o,ty,pos,aft,g⟩ E K :=
 De (v:=Af (Mw 18446744073709551615 a)) (fun f hf w _=>by
  have:=uN 18446744073709551615 a
  simp only [Px] at this
  simp [execOp,hf.ev h,Af,Op.unary,Op.intBits,IntKind.signed,IntKind.max,IntKind.bits] at this ⊢
  exact this) k
theorem Y_neg64 (h:ev E o=some (Af a)) (k:K (Af (Lj 0 a))):Y x W ⟨d,.unOp .neg xt o,ty,pos,aft,g⟩ E K :=
 De (v:=Af (Lj 0 a)) (fun f hf w _=>by
  have:=gS 0 a
  simp [execOp,hf.ev h,Af,Op.unary,Op.intArith] at this ⊢
  exact this) k
theorem Rn {t e:TypeId} {n:Nat} {kd:IntKind} {j:Int} {vs:List Value} {v:Value} (i:Nat) (hu:x.P.underlying t=some (.array n e)) (hA:∀ w,(isAgg e).run x.P w=.ok false w) (hS:∀ w,(sizeOf e).run x.P w=.ok 1 w)
  (h1:ev E o=some (.agg vs.toArray)) (h2:ev E p=some (.int kd j)) (hj:j=(i:Int)) (hlt:i<n) (hv:vs[i]?=some v) (k:K v):Y x W ⟨d,.index t o p,ty,pos,aft,g⟩ E K:=by
 subst hj
 refine De (v:=v) (fun f hf w _=>?_) k
 simp [execOp,hf.ev h1,hf.ev h2,Instr.index,asIntOf,run_underlying hu,hS w,hlt,part,hA w,hv]
theorem Y_ldW {t e b' n:Nat} {cs:List Value} (i:Nat) (hA:∀ w,(isAgg t).run x.P w=.ok true w) (hS:∀ w,(sizeOf t).run x.P w=.ok n w) (h:ev E o=some (.pointer (some ⟨b',0,none⟩)))
  (hi:H[i]?=some (.blk b' e cs)) (hn:cs.length=n) (k:K (.agg cs.toArray)):Y x (St c G H) ⟨d,.load t o,ty,pos,aft,g⟩ E K:=Gl i hA hS h hi (by rw [List.drop_zero];exact List.take_of_length_le Dz) hn k
theorem Bq {t e:TypeId} {kd:IntKind} {n b':Nat} {j:Int} (i:Nat) (hu:x.P.underlying t=some (.array n e)) (hs:∀ w,(sizeOf e).run x.P w=.ok 1 w)
  (h1:ev E o=some (.pointer (some ⟨b',0,none⟩))) (h2:ev E p=some (.int kd j)) (hj:j=(i:Int)) (hlt:i<n)
  (k:K (.pointer (some ⟨b',i,none⟩))):Y x W ⟨d,.indexAddr t o p,ty,pos,aft,g⟩ E K:=Du i hu hs h1 h2 hj hlt Dz k
end
theorem Df (l:List Nat):(l.map Af).all (·.oneCell')=true:=by
 rw [List.all_eq_true];intro v hv;obtain ⟨n,_,rfl⟩:=List.mem_map.1 hv;rfl
def Gm (c:List Nat):Value:=.agg (c.map Af).toArray
section
variable {x:Cx} {Q:Exit→Env→World→Prop} {E:Env} {K:Value→World→Prop} {w:World} {d:Option Tmp} {ty:TypeId} {pos:String} {aft:Array Edge} {g:Option (Nat×Bool)} {c:Ctx} {G:Ghost} {H:List Res}
theorem Ro {o p:Operand} {t b e n:Nat} {vs cs:List Value} (hs:St c G (.blk b e cs::H) w) (hS:∀ w,(sizeOf t).run x.P w=.ok n w) (h1:ev E o=some (.pointer (some ⟨b,0,none⟩))) (h2:ev E p=some (.agg vs.toArray))
  (hn:vs.length=n) (hc:cs.length=n) (hone:vs.all (·.oneCell')=true) (k:∀ w',St c G (.blk b e vs::H) w'→K undef w'):S x ⟨d,.store t o p,ty,pos,aft,g⟩ Q K E w :=
 Es hs hS h1 h2 hn hone Dz (by simp [← hc]) k
end
def Be {α:Type} (k:Nat) (R:Ghost→List Value→α→Prop) (G:Ghost) (v:Value) (l:List α):Prop :=
 ∃ cs:List (List Value),Sl G v k l.length cs.flatten∧Cj (R G) cs l∧∀ c∈cs,c.length=k
theorem Be.mono {α:Type} {k:Nat} {R:Ghost→List Value→α→Prop} {G G':Ghost} (hR:∀ c a,R G c a→R G' c a) (h:G.le G') {v:Value} {l:List α} (hl:Be k R G v l):Be k R G' v l:=by
 obtain ⟨cs,h1,h2,h3⟩:=hl
 exact ⟨cs,h1.mono h,Cj.mono (fun a b=>hR a b) h2,h3⟩
theorem Be.slice {α:Type} {k:Nat} {R:Ghost→List Value→α→Prop} {G:Ghost} {v:Value} {l:List α} (hl:Be k R G v l):∃ A c,v=.slice A l.length c:=by
 obtain ⟨_,⟨A,c,h,_⟩,_⟩:=hl
 exact ⟨A,c,h⟩
theorem Be.nil {α:Type} {k:Nat} {R:Ghost→List Value→α→Prop} {G:Ghost}:Be k R G (.slice none 0 0) ([]:List α):=⟨[],Sl.nil G k,trivial,fun _ h=>by cases h⟩
theorem Qj {k:Nat}:∀ (cs:List (List Value)) (i:Nat) (c:List Value),(∀ c∈cs,c.length=k)→cs[i]?=some c→(cs.flatten.drop (i*k)).take k=c
 | [],i,c,_,h=>by simp at h
 | d::cs,0,c,hk,h=>by
  obtain rfl:d=c:=by simpa using h
  have hd:=hk d Dr
  rw [Nat.zero_mul,List.drop_zero,List.flatten_cons,List.take_append_of_le_length Dz,List.take_of_length_le Dz]
 | d::cs,i+1,c,hk,h=>by
  have hd:=hk d Dr
  have ih:=Qj cs i c (fun c hc=>hk c (by simp [hc])) bT
  rw [List.flatten_cons,Nat.add_mul,Nat.one_mul,List.drop_append,List.drop_eq_nil_of_le Dz,List.nil_append,hd,Nat.add_sub_cancel]
  exact ih
section
variable {x:Cx} {W:World→Prop} {E:Env} {K:Value→Prop} {d:Option Tmp} {ty:TypeId} {pos:String} {aft:Array Edge} {g:Option (Nat×Bool)}
theorem Bv {α:Type} {k:Nat} {R:Ghost→List Value→α→Prop} {G:Ghost} {v:Value} {l:List α} {o q:Operand} {t e:TypeId} {kd:IntKind} {j:Int} (hl:Be k R G v l) (i:Nat) (hu:x.P.underlying t=some (.slice e)) (hs:∀ w,(sizeOf e).run x.P w=.ok k w)
  (h1:ev E o=some v) (h2:ev E q=some (.int kd j)) (hj:j=(i:Int)) (hlt:i<l.length)
  (kk:∀ p c,(∀ (j:Nat) (u:Value),c[j]?=some u→Ft G (p.add j)=some u)→c.length=k→R G c l[i]→K (.pointer (some p))):Y x W ⟨d,.indexAddr t o q,ty,pos,aft,g⟩ E K:=by
 obtain ⟨cs,hS,h2a,hk⟩:=hl
 obtain ⟨c,hc,hR⟩:=Cj.get i h2a hlt
 refine Y_idx i hu hs hS h1 h2 hj hlt fun p hp=>kk p c ?_ (hk c (List.mem_of_getElem? hc)) hR
 intro j u hu
 have hl:=hk c (List.mem_of_getElem? hc)
 have hjk:j<k:=by
  rcases Nat.lt_or_ge j k with h' | h'
  ·exact h'
  ·rw [List.getElem?_eq_none Dz] at hu;cases hu
 rw [← Qj cs i c hk hc,List.getElem?_take_of_lt hjk,List.getElem?_drop] at hu
 exact hp j u hu
end
theorem Ec {x:Cx} {Q:Exit→Env→World→Prop} {w:World} (d:Nat) {ops:Array Oper} {t:Tmp} {op:Op} {ty:TypeId} {pos:String} {aft:Array Edge} {l:List Oper} {D:List Deferred} {L:List (Nat×Value)} {j:Nat} {b:Bool} (hj:(ops[j]?).bind (·.dst)=some d) (hb:Ge L d=some undef)
  (h:O x ops Q l ⟨D,(t,undef)::L⟩ w):O x ops Q (⟨some t,op,ty,pos,aft,some (j,b)⟩::l) ⟨D,L⟩ w:=by
 intro hd a ha
 have hw:Region.wanted (⟨some t,op,ty,pos,aft,some (j,b)⟩:Oper) (yielded ops a.tmps)=false:=by
  simp only [Region.wanted,yielded,hj,Option.bind_some,ha.look d _ hb]
  cases b<;>rfl
 refine wpListIn_step fun K hK=>?_
 rw [hw]
 simp only [Bool.false_eq_true,if_false]
 exact ⟨fun _ _=>trivial,hK _ _ (h (fun o' ho'=>hd o' (List.mem_cons_of_mem _ ho')) _ (ha.put (some t) _ (hd _ List.mem_cons_self)))⟩
theorem St.rowForm {c:Ctx} {G:Ghost} {H:List Res} {w:World} {e k n:Nat} {v:Value} {xs:List Value} (i:Nat) (hs:St c G H w) (hi:H[i]?=some (.row e k v n xs)) (hn:0<n):∃ b cap,v=.slice (some ⟨b,0,none⟩) n cap∧n≤cap:=by
 have hr:=hs.hold _ (List.mem_of_getElem? hi)
 rcases hr.2 with ⟨_,h0⟩ | ⟨b,cap,cur,rfl,_,_,h1,_⟩
 ·omega
 ·exact ⟨b,cap,rfl,h1⟩
section
variable {x:Cx} {W:World→Prop} {E:Env} {K:Value→Prop} {d:Option Tmp} {ty:TypeId} {pos:String} {aft:Array Edge} {g:Option (Nat×Bool)}
theorem gT {o q:Operand} {t:TypeId} {s:ByteArray} {kd:IntKind} {j:Int} {b:UInt8} (i:Nat) (hu:x.P.underlying t=some .string) (h1:ev E o=some (.string s)) (h2:ev E q=some (.int kd j)) (hj:j=(i:Int)) (hb:s[i]?=some b)
  (k:K (.int .u8 (b.toNat:Int))):Y x W ⟨d,.index t o q,ty,pos,aft,g⟩ E K:=by
 subst hj
 refine De (v:=.int .u8 (b.toNat:Int)) (fun f hf w _=>?_) k
 simp [execOp,hf.ev h1,hf.ev h2,Instr.index,asIntOf,run_underlying hu,hb]
end
section
variable {x:Cx} {Q:Exit→Env→World→Prop} {E:Env} {K:Value→World→Prop} {w:World} {d:Option Tmp} {ty:TypeId} {pos:String} {aft:Array Edge} {g:Option (Nat×Bool)} {c:Ctx} {G:Ghost} {H:List Res}
end
section
variable {x:Cx} {E:Env} {d:Option Tmp} {ty:TypeId} {pos:String} {aft:Array Edge} {g:Option (Nat×Bool)}
theorem Lk {W:World→Prop} {K:Value→Prop} {o q:Operand} {t e:TypeId} {kd:IntKind} {n cap b s m:Nat} {j:Int} (i:Nat) (hu:x.P.underlying t=some (.slice e)) (hs:∀ w,(sizeOf e).run x.P w=.ok s w)
  (h1:ev E o=some (.slice (some ⟨b,0,none⟩) n cap)) (h2:ev E q=some (.int kd j)) (hj:j=(i:Int)) (hlt:i<n) (hm:i*s=m)
  (k:K (.pointer (some ⟨b,m,none⟩))):Y x W ⟨d,.indexAddr t o q,ty,pos,aft,g⟩ E K:=by
 subst hj hm
 refine De (v:=.pointer (some ⟨b,i*s,none⟩)) (fun f hf w _=>?_) k
 have ha:(⟨b,0,none⟩:Addr).add (i*s)=⟨b,i*s,none⟩:=by
  unfold Addr.add;split
  ·rename_i h0;simp [h0]
  ·simp
 simp [execOp,hf.ev h1,hf.ev h2,Instr.indexAt,asIntOf,run_underlying hu,hs w,hlt,ha]
theorem nY {Q:Exit→Env→World→Prop} {K:Value→World→Prop} {w:World} {c:Ctx} {G:Ghost} {H:List Res} {o p:Operand} {t e:TypeId} {kd kd':IntKind} {u:Value} {k bytes n:Nat} {cs:List Value} (hs:St c G H w) (ht:x.P.underlying t=some (.slice e)) (hi:TI x.P e u k bytes)
  (ho:ev E o=some (.int kd (n:Int))) (hp:ev E p=some (.int kd' (n:Int))) (hb:bytes*n≤281474976710656) (hm:n≤281474976710656) (hc:(madeCells u.cells (n*k)).toList=cs)
  (kk:∀ b w',St c G (.blk b e cs::H) w'→K (.slice (some ⟨b,0,none⟩) n n) w'):S x ⟨d,.makeSlice t o p,ty,pos,aft,g⟩ Q K E w:=by
 obtain ⟨i,hi,hz,hik,hib⟩:=hi
 have hr:=run_make (P:=x.P) w t e i u ht hi hz kd kd' (n:Int) (n:Int) Dz Dz (by
  rw [hib]
  have h:((bytes*n:Nat):Int)≤281474976710656:=by omega
  rwa [Int.natCast_mul] at h) Dz
 simp only [Int.toNat_natCast,hik] at hr
 have hblk:Res.holds (w.alloc (.cells (madeCells u.cells (n*k)) e)) (.blk w.heap.size e cs):=by
  show (w.alloc _).heap[w.heap.size]?=_
  rw [heap_alloc_new,← hc]
 refine Jm rfl fun a ha=>⟨_,_,?_,kk w.heap.size _ (hs.alloc _ hblk (fun j hj=>hj))⟩
 simp only [execOp,ha.ev ho,ha.ev hp]
 simp [hr]
end
section
variable {x:Cx} {E:Env} {d:Option Tmp} {ty:TypeId} {pos:String} {aft:Array Edge} {g:Option (Nat×Bool)}
theorem Co {W:World→Prop} {K:Value→Prop} {t e n k:Nat} {ps:List (Nat×Operand)} {z:Value} {zs cs:List Value} {vs:List (Nat×Value)} (hu:x.P.underlying t=some (.array n e)) (hs:∀ w,(sizeOf e).run x.P w=.ok k w) (hz:∀ w,(zeroValue t).run x.P w=.ok z w) (hzs:z.cells.toList=zs)
  (hv:evs E ps=some vs) (hc:Hc (fun i=>some (i*k,k)) zs vs=some cs) (kk:K (.agg cs.toArray)):Y x W ⟨d,.build t ps.toArray,ty,pos,aft,g⟩ E K:=by
 subst hzs
 refine De (v:=.agg cs.toArray) (fun a ha w _=>?_) kk
 have hv':=Ns ha hv
 have hf:=Li hc
 simp only [Array.toArray_toList] at hf
 simp only [execOp,Instr.build,Sem.run_bind,hz w,Result.andThen_ok,run_underlying hu w,hs w]
 simp only [List.map_toArray,hv']
 rw [hf]
 simp
theorem qY {Q:Exit→Env→World→Prop} {K:Value→World→Prop} {w:World} {c:Ctx} {G:Ghost} {H:List Res} {o:Operand} {src dst e:TypeId} {s:List UInt8} (hs:St c G H w) (h1:x.P.underlying src=some .string) (h2:x.P.underlying dst=some (.slice e)) (h3:x.P.underlying e=some (.int .u8))
  (ho:ev E o=some (.string ⟨s.toArray⟩)) (hM:∀ k,¬ c.M k) (hl:s.length≤100000000)
  (kk:∀ G' v w',G.le G'→Cv G' v s→St c G' H w'→K v w'):S x ⟨d,.convert src dst o,ty,pos,aft,g⟩ Q K E w:=by
 have hr:=Lib.run_convert_string_bytes (P:=x.P) w src dst e ⟨s.toArray⟩ h1 h2 h3
 have hsz:(⟨s.toArray⟩:ByteArray).size=s.length:=by simp [ByteArray.size]
 have hgc:=grownCap_ge w s.length 0 e
 have hcm:=grownCap_le_maxLen w s.length 0 e Z45
 have hnew:=Lib.bytesWorld_at_new w e ⟨s.toArray⟩
 obtain ⟨cs,hcs⟩:∃ cs,cs=Lib.bytesCells w e ⟨s.toArray⟩:=⟨_,rfl⟩
 rw [← hcs] at hnew
 have hs1:St c G (.obj w.heap.size (.cells cs e (cs.size,cs.size+1))::H) (Lib.bytesWorld w e ⟨s.toArray⟩):=by
  refine St.step (w:=w) (H1:=[]) (H2:=[_]) (G':=G) (by simpa using hs) rfl rfl rfl (by rw [Lib.bytesWorld_size];omega) (fun k hk _=>Lib.bytesWorld_at_old w e _ k hk) (gLr G) (fun k o hk=>.inl hk) (fun k o hk hge=>by rw [hs.ghost_none hge] at hk;cases hk) ?_ ?_ Dr (by simp [Lib.bytesWorld,World.freeze])
  ·intro r hr;obtain rfl:=List.mem_singleton.1 hr
   exact hnew
  ·intro r hr k hk;obtain rfl:=List.mem_singleton.1 hr
   obtain rfl:k=w.heap.size:=hk
   exact ⟨hs.ghost_none (Nat.le_refl _),.inl (Nat.le_refl _)⟩
 obtain ⟨G',hle,hG',hs2⟩:=hs1.freeze (fun k _=>hM k)
 have hg:G' w.heap.size=some (.cells cs e (cs.size,cs.size+1)):=(hG' _ rfl).trans hnew
 have hb:Cv G' (.slice (some ⟨w.heap.size,0,none⟩) s.length (grownCap w s.length 0 e)) s:=by
  refine ⟨_,_,rfl,by simp,hgc,hcm,fun _=>⟨_,rfl,fun j u hj=>?_⟩⟩
  have hadd:(⟨w.heap.size,0,none⟩:Addr).add j=⟨w.heap.size,j,none⟩:=by
   unfold Addr.add;split
   ·rename_i h0;simp [h0]
   ·simp
  have hjl:j<s.length:=by
   rcases Nat.lt_or_ge j s.length with h' | h'
   ·exact h'
   ·rw [List.getElem?_eq_none (by simpa using h')] at hj;cases hj
  rw [hadd]
  unfold Ft
  rw [hg]
  simp only [Option.isSome_none,Bool.false_eq_true,if_false]
  rw [hcs]
  unfold Lib.bytesCells
  rw [Array.getElem?_append_left (by simpa using hjl)]
  simpa [Kc] using hj
 refine Jm rfl fun a ha=>⟨_,_,?_,kk G' _ _ hle hb hs2⟩
 simp only [hsz] at hr
 simp [execOp,ha.ev ho,hr]
end
theorem Be.ofSl {α:Type} {k n:Nat} {R:Ghost→List Value→α→Prop} {G:Ghost} {v:Value} {xs:List Value} {cs:List (List Value)} {l:List α} (h:Sl G v k n xs) (hx:xs=cs.flatten) (hn:n=l.length) (h2:Cj (R G) cs l) (h3:∀ c∈cs,c.length=k):Be k R G v l:=by
 subst hx hn;exact ⟨cs,h,h2,h3⟩
open Classical in
theorem Ai.lend {P:Program} {f:FuncId} {args:List Value} {G:Ghost} {e k n:Nat} {v:Value} {xs:List Value} {ρ:Value→Prop} (h:∀ G1,G.le G1→Sl G1 v k n xs→Ai P f args G1 [] fun r _ H'=>H'=[]∧ρ r) :
  Ai P f args G [.row e k v n xs] fun r _ H'=>H'=[.row e k v n xs]∧ρ r:=by
 intro w hw
 have hh:Res.holds w (.row e k v n xs):=hw.hold (.row e k v n xs) Dr
 have hoff:=hw.off (.row e k v n xs) Dr
 obtain ⟨G1,hG1⟩:∃ G1:Ghost,G1=fun j=>if (Res.row e k v n xs).foot j then w.heap[j]? else G j:=⟨_,rfl⟩
 have hle:G.le G1:=fun j o hj=>by
  have:¬ (Res.row e k v n xs).foot j:=fun hf=>by
   have:=(hoff j hf).1
   rw [hj] at this;cases this
  rw [hG1];simpa [this] using hj
 have hSl:Sl G1 v k n xs:=Sl.of_row hh fun b hb=>by
  rw [hG1]
  have:(Res.row e k v n xs).foot b:=hb
  simp [this]
 have hgh:∀ j o,G1 j=some o→w.heap[j]?=some o:=fun j o hj=>by
  rw [hG1] at hj
  by_cases hf:(Res.row e k v n xs).foot j
  ·simpa [hf] using hj
  ·simp [hf] at hj;exact hw.ghost j o hj
 have h1:St ⟨w,G1,Bl []⟩ G1 [] w:=⟨rfl,rfl,rfl,Nat.le_refl _,fun _ _ _=>rfl,gLr _,fun _ _ hj=>.inl hj,hgh,fun _ hr=>(by cases hr),fun _ hr=>(by cases hr),List.Pairwise.nil,Nat.le_refl _⟩
 refine (h G1 hle hSl w h1).mono ?_
 rintro ex w' ⟨r,G',H',rfl,h',rfl,hρ⟩
 have hold:∀ j,j<w.heap.size→w'.heap[j]?=w.heap[j]?:=fun j hj=>h'.old j hj (Ht j)
 refine ⟨r,fun j=>if (Res.row e k v n xs).foot j then none else G' j,[.row e k v n xs],rfl,?_,rfl,hρ⟩
 refine ⟨h'.os,h'.tape,h'.output,h'.size,fun j hj _=>hold j hj,fun j o hj=>?_,fun j o hj=>?_,fun j o hj=>?_,fun s hs=>?_,fun s hs j hj=>?_,hw.apart,h'.drn⟩
 ·replace hj:G j=some o:=hj
  have hf:¬ (Res.row e k v n xs).foot j:=fun hf=>by
   have:=(hoff j hf).1
   rw [hj] at this;cases this
  simp only [hf,if_false]
  exact h'.le j o (hle j o hj)
 ·by_cases hf:(Res.row e k v n xs).foot j
  ·simp [hf] at hj
  ·simp only [hf,if_false] at hj
   rcases h'.new j o hj with h2 | h2
   ·rw [hG1] at h2;simp only [hf,if_false] at h2;exact .inl h2
   ·exact .inr h2
 ·by_cases hf:(Res.row e k v n xs).foot j
  ·simp [hf] at hj
  ·simp only [hf,if_false] at hj;exact h'.ghost j o hj
 ·obtain rfl:s=.row e k v n xs:=by simpa using hs
  exact Res.keep hh fun j hj=>hold j (Res.lt hh hj)
 ·obtain rfl:s=.row e k v n xs:=by simpa using hs
  exact ⟨by simp [hj],(hoff j hj).2⟩
def U (x:Cx) (c:Code) (Q:Exit→Env→World→Prop):Nat→Env→World→Prop
 | 0,_,_=>False
 | n+1,E,w=>T x c (sq (fun E w=>∃ L,Ja L E.l∧U x c Q n ⟨E.d,L⟩ w) Q) E w
theorem Gn {x:Cx} {c:Code} {Q:Exit→Env→World→Prop} {n:Nat} {E:Env} {w:World} (h:T x c (sq (fun E w=>∃ L,Ja L E.l∧U x c Q n ⟨E.d,L⟩ w) Q) E w):U x c Q (n+1) E w:=h
theorem Ej {x:Cx} {c:Code} {Q:Exit→Env→World→Prop} (n:Nat) {D:List Deferred} {M L:List (Nat×Value)} {w:World} (hL:Ja L M) (h:U x c Q n ⟨D,L⟩ w):T x (.loop c) Q ⟨D,M⟩ w:=by
 refine Tr (U x c Q) hL h fun n E w hI=>?_
 cases n with
 | zero=>exact hI.elim
 | succ n =>
  refine lA hI fun e E' w' hq=>?_
  cases e with
  | normal =>
   obtain ⟨L,hs,hU⟩:=hq
   exact ⟨n,Nat.lt_succ_self n,L,hs,hU⟩
  | _=>exact hq
end Go.Ex
namespace Go.Ex
open Go Go.RowKit Go.ChangeShapes Go.WideShapes Go.ChangeAt
def whole (W:World):Ghost:=fun k=>W.heap[k]?
theorem St.whole (W:World):St ⟨W,whole W,Bl []⟩ (whole W) [] W :=
 ⟨rfl,rfl,rfl,Nat.le_refl _,fun _ _ _=>rfl,gLr _,fun _ _ h=>.inl h,fun _ _ h=>h,(fun _ h=>by cases h),(fun _ h=>by cases h),List.Pairwise.nil,Nat.le_refl _⟩
theorem gcell_whole (W:World) (a:Addr):Ft (whole W) a=W.cell? a:=by
 unfold Ft Ex.whole World.cell?
 cases W.heap[a.block]? with
 | none=>rfl
 | some o=>cases o<;>rfl
theorem law_calls {P:Program} {f:FuncId} {args:List Value} {W:World} (h:Ai P f args (Ex.whole W) [] fun r _ H'=>H'=[]∧r=.bool true) :
  Calls P f args.toArray W fun e W'=>e=.returned (.bool true)∧Below W.heap.size W W' :=
 (h W (St.whole W)).mono fun e W' ⟨v,G',H',he,hs,hH,hv⟩=>by
  subst hH hv
  exact ⟨he,by
   refine ⟨hs.os,hs.tape,hs.output,hs.size,fun k hk=>hs.old k hk (fun ⟨r,hr,_⟩=>by cases hr)⟩⟩
section
variable {H:Type} {enc:TypeId×Value→H} {P:Program}
theorem gU {W:World} {v:Value} {t e:TypeId} {k:IntKind} {fuel:Nat} {x:DataW H×List MemPlace} (ht:P.underlying t=some (.slice e)) (he:P.underlying e=some (.int k)) (hc:P.cellsOf e=1)
  (h:DataW.trod enc P W 0 (fun _=>true) true fuel t [v]=some x):∃ zs:List Int,(∀ z∈zs,(Lit.int k z).wf=true)∧Sl (Ex.whole W) v 1 zs.length (zs.map (.int k)):=by
 rcases open_ints ht he hc h with ⟨hv,_⟩ | ⟨a,len,cap,zs,hv,_,hl,hm,hz,_,hcell,hwz⟩
 ·obtain rfl:v=.slice none 0 0:=by simpa using hv
  exact ⟨[],by simp,Sl.nil _ _⟩
 ·obtain rfl:v=.slice (some a) len cap:=by simpa using hv
  simp only [if_true] at hz
  have hlen:(zs.take len).length=len:=by rw [List.length_take];omega
  refine ⟨zs.take len,fun z hz=>hwz z (List.mem_of_mem_take hz),some a,cap,by rw [hlen],by simp,by omega,hm,fun _=>⟨a,rfl,fun j u hj=>?_⟩⟩
  rw [gcell_whole]
  have hj':j<len:=by
   have:=(List.getElem?_eq_some_iff.1 hj).1
   rw [List.length_map,hlen] at this;exact this
  rw [hcell j Dz]
  rw [List.getElem?_map,List.getElem?_take_of_lt hj'] at hj
  have hjz:j<zs.length:=by omega
  rw [List.getElem?_eq_getElem hjz] at hj
  simp [List.getD,List.getElem?_eq_getElem hjz] at hj ⊢
  exact hj
theorem qZ {W:World} {v:Value} {t e:TypeId} {fuel:Nat} {x:DataW H×List MemPlace} (ht:P.underlying t=some (.slice e)) (he:P.underlying e=some (.int .u8)) (hc:P.cellsOf e=1)
  (h:DataW.trod enc P W 0 (fun _=>true) true fuel t [v]=some x):∃ bs,Cv (Ex.whole W) v bs:=by
 obtain ⟨zs,hw,hs⟩:=gU ht he hc h
 refine ⟨zs.map fun z=>UInt8.ofNat z.toNat,Cv.ofSl hs Dr ?_⟩
 rw [List.map_map]
 refine List.map_congr_left fun z hz=>?_
 have hx:0≤z∧z≤255:=by simpa [Lit.wf,IntKind.min,IntKind.max,IntKind.signed,IntKind.bits] using hw z hz
 show Value.int .u8 z=.int .u8 ((UInt8.ofNat z.toNat).toNat:Int)
 congr 1
 simp
 omega
theorem Py {W W':World} (hl:laidOutB P=true) (hb:Below W.heap.size W W'):∀ (ts:List TypeId) {vs:List Value} {ds:List (DataW H)} {ps:List MemPlace},(ts.all fun t=>P.readableRec t && decide (t<P.types.size))=true →
  DataW.TrodAll enc P W 0 (fun _=>true) true ts vs ds ps→(∀ x∈ps,x.block<W.heap.size)→DataW.TrodAll enc P W' 0 (fun b=>decide (b<W.heap.size)) true ts vs ds ps
 | [],vs,ds,ps,_,h,_=>by
  obtain ⟨rfl,rfl,rfl⟩:=trodAll_nil h
  exact trodAll_mk0
 | t::ts,vs,ds,ps,ha,h,hlt=>by
  obtain ⟨v,vs',d,ds',p,q,rfl,rfl,rfl,h1,h2⟩:=trodAll_cons h
  simp only [List.all_cons,Bool.and_eq_true,decide_eq_true_eq] at ha
  exact trodAll_cons_mk (Below.trod hl ha.1.1 ha.1.2 h1 hb (fun x hx=>hlt x (List.mem_append_left _ hx))) (Py hl hb ts (by simpa using ha.2) h2 (fun x hx=>hlt x (List.mem_append_right _ hx)))
theorem post_law {f:Func} {s:ChangeSpec} {W W':World} {args:Array Value} {ds gs:List (DataW H)} {before:List MemPlace} {tb:TypeId} (hl:laidOutB P=true) (hp:(f.params.toList.all fun t=>P.readableRec t && decide (t<P.types.size))=true)
  (hr:f.resultTypes=#[tb]) (ht:P.underlying tb=some .bool) (hv:s.vars=[]) (hW:DataW.Whole enc P f.params.toList s.vars false W args.toList ds gs before)
  (hs:s.fn H (ds++[])={ results:=[.lit (.bool true)],args:=ds }) (hb:Below W.heap.size W W'):s.post enc P f false true false false W args (.bool true) W':=by
 have hW':=hW
 obtain ⟨p,q,hA,hV,rfl,_,_⟩:=hW
 rw [hv] at hV
 obtain ⟨rfl,rfl⟩:=trodVars_none hV
 refine ⟨ds,[],_,[],p,[],hW',?_,?_,?_,hb.frame _,fun h=>by cases h⟩
 ·rw [hs,hr]
  exact trodAll_mk1 (shut_bool ht _)
 ·rw [hs]
  exact Py hl hb _ hp hA (fun x hx=>by simpa using hW'.lt x (by simp [hx]))
 ·rw [hs,hv]
  exact rfl
end
section
variable {H:Type} {enc:TypeId×Value→H} {P:Program}
theorem Xx {W:World} {v:Value} {t:TypeId} {k:IntKind} {fuel:Nat} {x:DataW H×List MemPlace} (ht:P.underlying t=some (.int k)) (h:DataW.trod enc P W 0 (fun _=>true) true fuel t [v]=some x) :
  ∃ z,v=.int k z∧(Lit.int k z).wf=true:=by
 cases fuel with
 | zero=>simp [DataW.trod] at h
 | succ n =>
  rw [DataW.trod_step] at h
  unfold DataW.trodStep at h
  simp only [ht] at h
  cases v<;>simp at h
  rename_i k' z
  obtain ⟨⟨rfl,hw⟩,_⟩:=h
  exact ⟨z,rfl,hw⟩
end
section
variable {H:Type} {enc:TypeId×Value→H} {P:Program}
def Places (d:DataW H) (n:Nat):Prop:=n=0∨∃ el sp,d=.slice el sp∧el.length=n
end
end Go.Ex
namespace Go.Proofs.YtngdgnolkilheaaGreatDoor.Bulk
open Go Go.Ex
theorem one {H:Type} (d:DataW H):1≤Rows.uptoBulk d:=by
 cases d with
 | lit l=>cases l<;>simp [Rows.uptoBulk]
 | _=>simp [Rows.uptoBulk]
theorem mem {H:Type} {d:DataW H}:∀ {l:List (DataW H)},d∈l→Rows.uptoBulk d≤Rows.uptoBulkAll l
 | [],h=>by cases h
 | x::l,h=>by
  rw [Rows.uptoBulkAll]
  rcases List.mem_cons.1 h with rfl | h
  ·omega
  ·have:=mem h;omega
theorem count {H:Type}:∀ l:List (DataW H),l.length≤Rows.uptoBulkAll l
 | []=>Nat.zero_le _
 | x::l=>by
  have h1:=count l
  have h2:=one x
  rw [Rows.uptoBulkAll,List.length_cons];omega
theorem places {H:Type} {d:DataW H} {n:Nat} (h:Places d n):n≤Rows.uptoBulk d:=by
 rcases h with rfl | ⟨el,sp,rfl,rfl⟩
 ·exact Nat.zero_le _
 ·have:=count el
  rw [Rows.uptoBulk];omega
end Go.Proofs.YtngdgnolkilheaaGreatDoor.Bulk
namespace Go.Ex
open Go Go.RowKit
def RtX (P:Program) (N:Nat) (fn:Func) (R X:Value→World→Prop):Exit→Env→World→Prop
 | .normal,E,w|.ret,E,w=>E.d=[]∧∃ v,(∀ a,Ag N E a→(results fn a.tmps).run P w=.ok v w)∧R v w
 | .panic ch,E,w=>E.d=[]∧∃ v,ch=[{ v:=v,recovered:=false }]∧X v w
 | _,_,_=>False
def FnX (P:Program) (f:FuncId) (args:List Value) (G:Ghost) (H:List Res) (R:Value→Ghost→List Res→Prop) (X:Value→Ghost→Prop):Prop :=
 ∀ w,St ⟨w,G,Bl H⟩ G H w→Calls P f args.toArray w fun e w'=>(∃ v G' H',e=.returned v∧St ⟨w,G,Bl H⟩ G' H' w'∧R v G' H')∨∃ v G',e=.panicked [{ v:=v,recovered:=false }]∧St ⟨w,G,Bl H⟩ G' [] w'∧X v G'
theorem FnX.mono {P:Program} {f:FuncId} {args:List Value} {G:Ghost} {H:List Res} {R R':Value→Ghost→List Res→Prop} {X X':Value→Ghost→Prop} (h:FnX P f args G H R X)
  (hr:∀ v G' H',G.le G'→R v G' H'→R' v G' H') (hx:∀ v G',G.le G'→X v G'→X' v G'):FnX P f args G H R' X':=fun w hw =>
 (h w hw).mono fun _ _ he=>by
  rcases he with ⟨v,G',H',he,hs,hR⟩ | ⟨v,G',he,hs,hX⟩
  ·exact .inl ⟨v,G',H',he,hs,hr v G' H' hs.le hR⟩
  ·exact .inr ⟨v,G',he,hs,hx v G' hs.le hX⟩
theorem FnX.call {P:Program} {f:FuncId} {args:List Value} {G:Ghost} {H1 H:List Res} {R:Value→Ghost→List Res→Prop} {X:Value→Ghost→Prop} (h:FnX P f args G H1 R X) {c:Ctx} {w:World} (hs:St c G (H1++H) w) :
  Calls P f args.toArray w fun e w'=>(∃ v G' H',e=.returned v∧G.le G'∧St c G' (H'++H) w'∧R v G' H')∨∃ v G',e=.panicked [{ v:=v,recovered:=false }]∧G.le G'∧St c G' H w'∧X v G':=by
 have hpw:=List.pairwise_append.1 hs.apart
 have h0:St ⟨w,G,Bl H1⟩ G H1 w:=⟨rfl,rfl,rfl,Nat.le_refl _,fun _ _ _=>rfl,gLr G,fun k o hk=>.inl hk,hs.ghost,fun r hr=>hs.hold r (List.mem_append_left _ hr),
  fun r hr k hk=>⟨(hs.off r (List.mem_append_left _ hr) k hk).1,.inr ⟨r,hr,hk⟩⟩,hpw.1,Nat.le_refl _⟩
 have key:∀ G' H' w',St ⟨w,G,Bl H1⟩ G' H' w'→St c G' (H'++H) w':=fun G' H' w' h'=>by
  refine St.step hs h'.os h'.tape h'.output h'.size (fun k hk hk'=>h'.old k hk (fun ⟨r,hr,hrk⟩=>hk' r hr hrk)) h'.le h'.new (fun k o hk _=>h'.ghost k o hk) h'.hold ?_ h'.apart h'.drn
  intro r hr k hk
  exact h'.off r hr k hk
 refine (h w h0).mono fun e w' he=>?_
 rcases he with ⟨v,G',H',he,h',hR⟩ | ⟨v,G',he,h',hX⟩
 ·exact .inl ⟨v,G',H',he,h'.le,key G' H' w' h',hR⟩
 ·exact .inr ⟨v,G',he,h'.le,key G' [] w' h',hX⟩
theorem gV {P:Program} {f:FuncId} {fn:Func} {N:Nat} {c:Code} {args:List Value} {w:World} {R X:Value→World→Prop} {L:List (Nat×Value)}
  (hf:P.funcs[f]?=some fn) (hb:fn.body=some c) (hN:fn.ntmps=N) (hn:args.length≤N) (hL:Mu 0 args=L)
  (h:T ⟨P,N,none⟩ c (RtX P N fn R X) ⟨[],L⟩ w):Calls P f args.toArray w fun e w'=>(∃ v,e=.returned v∧R v w')∨∃ v,e=.panicked [{ v:=v,recovered:=false }]∧X v w':=by
 subst hL
 refine (callsIn_wide (n:=0)).1 (callsIn_of_wp hf hb trivial ?_ rfl)
 have ha:Ag N ⟨[],Mu 0 args⟩ { tmps:=args.toArray++Array.replicate (fn.ntmps-args.toArray.size) undef,defers:=[] }:=by
  refine ⟨by simp [hN];omega,rfl,fun t v ht=>?_⟩
  obtain ⟨_,h2⟩:=Oy args 0 t v ht
  have hlt:t<args.length:=by
   rcases Nat.lt_or_ge t args.length with h' | h'
   ·exact h'
   ·rw [List.getElem?_eq_none Dz] at h2;cases h2
  rw [Array.getElem?_append_left (by simpa using hlt)]
  simpa using h2
 refine wpIn_mono (h _ ha) ?_
 rintro e a' w' ⟨E,hE,hq⟩
 cases e<;>simp only [RtX] at hq<;>try exact hq.elim
 ·obtain ⟨hd,v,hv,hR⟩:=hq
  exact ⟨hE.defs.trans hd,v,hv a' hE,.inl ⟨v,rfl,hR⟩⟩
 ·obtain ⟨hd,v,hv,hR⟩:=hq
  exact ⟨hE.defs.trans hd,v,hv a' hE,.inl ⟨v,rfl,hR⟩⟩
 ·obtain ⟨hd,v,rfl,hX⟩:=hq
  exact ⟨hE.defs.trans hd,.inr ⟨v,rfl,hX⟩⟩
theorem FnX.of_T {P:Program} {f:FuncId} {fn:Func} {N:Nat} {c:Code} {args:List Value} {G:Ghost} {H:List Res} {R:Value→Ghost→List Res→Prop} {X:Value→Ghost→Prop} (L:List (Nat×Value))
  (hf:P.funcs[f]?=some fn) (hb:fn.body=some c) (hN:fn.ntmps=N) (hn:args.length≤N) (hL:Mu 0 args=L)
  (h:∀ w,St ⟨w,G,Bl H⟩ G H w→T ⟨P,N,none⟩ c (RtX P N fn (fun v w'=>∃ G' H',St ⟨w,G,Bl H⟩ G' H' w'∧R v G' H') fun v w'=>∃ G',St ⟨w,G,Bl H⟩ G' [] w'∧X v G') ⟨[],L⟩ w):FnX P f args G H R X:=fun w hw =>
 (gV hf hb hN hn hL (h w hw)).mono fun _ _ he=>by
  rcases he with ⟨v,he,G',H',hs,hR⟩ | ⟨v,he,G',hs,hX⟩
  ·exact .inl ⟨v,G',H',he,hs,hR⟩
  ·exact .inr ⟨v,G',he,hs,hX⟩
section
variable {x:Cx} {Q:Exit→Env→World→Prop} {E:Env} {K:Value→World→Prop} {w:World} {d:Option Tmp} {ty:TypeId} {pos:String} {aft:Array Edge} {g:Option (Nat×Bool)} {c:Ctx} {G:Ghost} {H:List Res}
end
section
variable {x:Cx} {W:World→Prop} {E:Env} {K:Value→Prop} {d:Option Tmp} {ty:TypeId} {pos:String} {aft:Array Edge} {g:Option (Nat×Bool)}
end
theorem gW {P:Program} {E:Env} {w:World} {c:Ctx} {G:Ghost} {H:List Res} {a b e:Nat} {ty:TypeId} {v:Value} (i:Nat) (hs:St c G H w) (hA:∀ w,(isAgg ty).run P w=.ok false w)
  (h:Ge E.l a=some (.pointer (some ⟨b,0,none⟩))) (hi:H[i]?=some (.blk b e [v])):Mv P E w (.cell a ty) v:=by
 refine ⟨_,h,?_⟩
 have hb:w.heap[b]?=some (.cells #[v] e (0,0)):=hs.hold _ (List.mem_of_getElem? hi)
 have hc:w.cell? ⟨b,0,none⟩=some v:=by simp [World.cell?,hb]
 simp [loadVar,hA w,hc]
section
variable {x:Cx} {Q:Exit→Env→World→Prop} {w:World} {ty:TypeId} {pos:String} {aft:Array Edge}
end
section
variable {x:Cx} {W:World→Prop} {E:Env} {K:Value→Prop} {d:Option Tmp} {ty:TypeId} {pos:String} {aft:Array Edge} {g:Option (Nat×Bool)} {o:Operand} {xt yt:TypeId}
end
section
variable {x:Cx} {ops:Array Oper} {pre:List Nat} {W:World→Prop} {Q:Exit→Env→World→Prop} {E:Env} {w:World}
theorem A_onlyN (i:Nat) {op:Op} {ty:TypeId} {pos:String} {aft:Array Edge} {g:Option (Nat×Bool)} {fuel:Nat} {listed:Array Bool} (hi:ops[i]?=some ⟨none,op,ty,pos,aft,g⟩)
  (hr:(Region.ready .any ops listed == [i])=true) (hg:gd ops ⟨none,op,ty,pos,aft,g⟩ E=some true)
  (h:S x ⟨none,op,ty,pos,aft,g⟩ (np Q) (fun _ w'=>W w'∧A x ops pre W Q fuel (listed.setIfInBounds i true) E w') E w):A x ops pre W Q (fuel+1) listed E w :=
 nM i hi hr hg (Tt h fun _ _ hv=>⟨fun _=>hv.1,hv.2⟩)
end
theorem Gq {P:Program} {w:World} {t:TypeId} {xs:Array Value} {i:Nat} {v:Value} (hA:∀ w,(isAgg t).run P w=.ok false w) (hx:xs[i]?=some v):(part t xs i).run P w=.ok v w:=by
 simp [part,hA w,hx]
theorem gX {P:Program} {w:World} (d:Nat) {e:TypeId} (he:P.underlying e=some (.int .u64)) (a b:Nat) (ha:a<W64) (hb:b<W64):(Op.equalIn (d+1) e (Af a) (Af b)).run P w=.ok (decide (a=b)) w:=by
 unfold Af
 rw [run_equalIn_int w d e _ _ _ _ he]
 congr 1
 by_cases h:a=b
 ·subst h;simp
 ·have h2:¬ ((a:Int)=(b:Int)):=by omega
  simp [h,h2]
theorem Xy {P:Program} {w:World} (d:Nat) {t e:TypeId} (ht:P.underlying t=some (.array 4 e)) (hS:∀ w,(sizeOf e).run P w=.ok 1 w) (hA:∀ w,(isAgg e).run P w=.ok false w) (he:P.underlying e=some (.int .u64)) {x y:List Nat}
  (hx:x.length=4) (hy:y.length=4) (hxw:∀ a∈x,a<W64) (hyw:∀ a∈y,a<W64) :
  (Op.equalIn (d+2) t (.agg (x.map Af).toArray) (.agg (y.map Af).toArray)).run P w=.ok (decide (x=y)) w:=by
 obtain ⟨a0,a1,a2,a3,rfl⟩:∃ a b c d,x=[a,b,c,d]:=by
  match x,hx with
  | [a,b,c,d],_=>exact ⟨a,b,c,d,rfl⟩
 obtain ⟨b0,b1,b2,b3,rfl⟩:∃ a b c d,y=[a,b,c,d]:=by
  match y,hy with
  | [a,b,c,d],_=>exact ⟨a,b,c,d,rfl⟩
 have hp:∀ (c0 c1 c2 c3:Nat) (i:Nat) (v:Value),[Af c0,Af c1,Af c2,Af c3][i]?=some v→∀ w,(part e (([c0,c1,c2,c3].map Af).toArray) i).run P w=.ok v w:=fun c0 c1 c2 c3 i v h w=>Gq hA bT
 have hq:=fun (a b:Nat) (h1:a<W64) (h2:b<W64) (w:World)=>gX (P:=P) (w:=w) d he a b h1 h2
 have h0:=hxw a0 Dr;have h1:=hxw a1 Dr;have h2:=hxw a2 Dr;have h3:=hxw a3 Dr
 have g0:=hyw b0 Dr;have g1:=hyw b1 Dr;have g2:=hyw b2 Dr;have g3:=hyw b3 Dr
 have e0:=hp a0 a1 a2 a3 0 _ rfl;have e1:=hp a0 a1 a2 a3 1 _ rfl;have e2:=hp a0 a1 a2 a3 2 _ rfl;have e3:=hp a0 a1 a2 a3 3 _ rfl
 have k0:=hp b0 b1 b2 b3 0 _ rfl;have k1:=hp b0 b1 b2 b3 1 _ rfl;have k2:=hp b0 b1 b2 b3 2 _ rfl;have k3:=hp b0 b1 b2 b3 3 _ rfl
 generalize ([a0,a1,a2,a3].map Af).toArray=X at *
 generalize ([b0,b1,b2,b3].map Af).toArray=Y at *
 have q0:=hq a0 b0 h0 g0;have q1:=hq a1 b1 h1 g1;have q2:=hq a2 b2 h2 g2;have q3:=hq a3 b3 h3 g3
 rw [Op.equalIn]
 simp only [Sem.run_bind,run_underlying ht,Result.andThen_ok,hS,Std.Legacy.Range.forIn_eq_forIn_range',Std.Legacy.Range.size]
 rw [show List.range' 0 ((4-0+1-1) / 1)=[0,1,2,3] from rfl]
 have hd:decide ([a0,a1,a2,a3]=[b0,b1,b2,b3])=(decide (a0=b0) && (decide (a1=b1) && (decide (a2=b2) && decide (a3=b3)))):=by simp
 rw [hd]
 generalize decide (a0=b0)=r0 at *
 generalize decide (a1=b1)=r1 at *
 generalize decide (a2=b2)=r2 at *
 generalize decide (a3=b3)=r3 at *
 simp only [List.forIn_cons,List.forIn_nil,Sem.run_bind,Nat.zero_mul,Nat.one_mul,Nat.mul_one,e0,e1,e2,e3,k0,k1,k2,k3,q0,q1,q2,q3,Result.andThen_ok]
 cases r0<;>simp only [Bool.not_true,Bool.not_false,Bool.false_eq_true,if_true,if_false,Sem.run_pure,Result.andThen_ok,Bool.false_and,Bool.true_and]
 cases r1<;>simp only [Bool.not_true,Bool.not_false,Bool.false_eq_true,if_true,if_false,Sem.run_pure,Result.andThen_ok,Bool.false_and,Bool.true_and,Sem.run_bind,e1,e2,e3,k1,k2,k3,q1,q2,q3]
 cases r2<;>simp only [Bool.not_true,Bool.not_false,Bool.false_eq_true,if_true,if_false,Sem.run_pure,Result.andThen_ok,Bool.false_and,Bool.true_and,Sem.run_bind,e1,e2,e3,k1,k2,k3,q1,q2,q3]
 cases r3<;>simp only [Bool.not_true,Bool.not_false,Bool.false_eq_true,if_true,if_false,Sem.run_pure,Result.andThen_ok,Bool.false_and,Bool.true_and,Sem.run_bind,e1,e2,e3,k1,k2,k3,q1,q2,q3]
section
variable {x:Cx} {E:Env} {K:Value→Prop} {d:Option Tmp} {ty:TypeId} {pos:String} {aft:Array Edge} {g:Option (Nat×Bool)} {o q:Operand} {c:Ctx} {G:Ghost} {H:List Res}
theorem Dg {t b i e n cap:Nat} {v:Value} {xs:List Value} (h:Nat) (hi:H[h]?=some (.row e 1 (.slice (some ⟨b,0,none⟩) n cap) n xs)) (hA:∀ w,(isAgg t).run x.P w=.ok false w) (ho:ev E o=some (.pointer (some ⟨b,i,none⟩)))
  (hx:xs[i]?=some v) (k:K v):Y x (St c G H) ⟨d,.load t o,ty,pos,aft,g⟩ E K :=
 De (v:=v) (fun a ha w hw=>by
  have hr:w.ownsRow 0 e 1 (.slice (some ⟨b,0,none⟩) n cap) n xs:=hw.hold (.row e 1 _ n xs) (List.mem_of_getElem? hi)
  have hc:w.cell? ⟨b,i,none⟩=some v:=by
   rcases hr.2 with ⟨h0,_⟩ | ⟨b',cap',cur,h0,_,hh,_,_,_,htk⟩
   ·cases h0
   ·injection h0 with h1' h2' h3'
    injection h1' with h1'
    injection h1' with h1'
    subst h1'
    rw [Nat.mul_one] at htk
    have hlt:i<n:=by
     rcases Nat.lt_or_ge i n with h' | h'
     ·exact h'
     ·rw [List.getElem?_eq_none (by rw [hr.1];omega)] at hx;cases hx
    rw [← htk,List.getElem?_take_of_lt hlt] at hx
    simpa [World.cell?,hh] using hx
  simp [execOp,ha.ev ho,Instr.loadAt,Instr.sureAddr,loadVar,hA w,hc]) k
end
section
variable {x:Cx} {W:World→Prop} {E:Env} {K:Value→Prop} {d:Option Tmp} {ty:TypeId} {pos:String} {aft:Array Edge} {g:Option (Nat×Bool)} {o q:Operand} {xt yt:TypeId}
theorem Y_neqW {e:TypeId} {a b:List Nat} (ht:x.P.underlying xt=some (.array 4 e)) (hS:∀ w,(sizeOf e).run x.P w=.ok 1 w) (hA:∀ w,(isAgg e).run x.P w=.ok false w) (he:x.P.underlying e=some (.int .u64)) (hg:x.P.eqGuardType x.P.depth xt=false)
  (h1:ev E o=some (.agg (a.map Af).toArray)) (h2:ev E q=some (.agg (b.map Af).toArray)) (hx:a.length=4) (hy:b.length=4) (hxw:∀ x∈a,x<W64) (hyw:∀ x∈b,x<W64) (k:K (.bool (!decide (a=b)))):Y x W ⟨d,.binOp .neq xt o q yt,ty,pos,aft,g⟩ E K :=
 De (v:=.bool (!decide (a=b))) (fun f hf w _=>by
  have h':(binOp .neq xt (.agg (a.map Af).toArray) (.agg (b.map Af).toArray)).run x.P w=.ok (.bool (!decide (a=b))) w:=by
   rw [run_neq_struct,Xy 9998 ht hS hA he hx hy hxw hyw];rfl
  simp only [execOp,hf.ev h1,hf.ev h2,Sem.run_bind,run_eqGuard_agg w _ _ _ _ _ _ hg,Result.andThen_ok,h',Sem.run_pure]) k
theorem Rp {e:TypeId} {a b:List Nat} (ht:x.P.underlying xt=some (.array 4 e)) (hS:∀ w,(sizeOf e).run x.P w=.ok 1 w) (hA:∀ w,(isAgg e).run x.P w=.ok false w) (he:x.P.underlying e=some (.int .u64)) (hg:x.P.eqGuardType x.P.depth xt=false)
  (h1:ev E o=some (.agg (a.map Af).toArray)) (h2:ev E q=some (.agg (b.map Af).toArray)) (hx:a.length=4) (hy:b.length=4) (hxw:∀ x∈a,x<W64) (hyw:∀ x∈b,x<W64) (kt:¬ a=b→K (.bool true)) (kf:a=b→K (.bool false)):Y x W ⟨d,.binOp .neq xt o q yt,ty,pos,aft,g⟩ E K :=
 Y_neqW ht hS hA he hg h1 h2 hx hy hxw hyw (by
  by_cases h:a=b
  ·simpa [h] using kf h
  ·simpa [h] using kt h)
end
section
variable {x:Cx} {W:World→Prop} {E:Env} {K:Value→Prop} {d:Option Tmp} {ty:TypeId} {pos:String} {aft:Array Edge} {g:Option (Nat×Bool)} {o q:Operand} {xt yt:TypeId}
theorem rA {e:TypeId} {a:Addr} (hp:x.P.underlying xt=some (.pointer e)) (h1:ev E o=some (.pointer (some a))) (k:K (.bool false)):Y x W ⟨d,.binOp .eql xt o (.const (.pointer none)) yt,ty,pos,aft,g⟩ E K :=
 De (v:=.bool false) (fun f hf w _=>by
  have h:∀ q:Nat,(Op.equalIn (q+1) xt (.pointer (some a)) (.pointer none)).run x.P w=.ok false w:=fun q=>by simp [Op.equalIn,run_underlying hp]
  have h':(binOp .eql xt (.pointer (some a)) (.pointer none)).run x.P w=.ok (.bool false) w:=by
   simp only [binOp]
   simp [Op.equal,Op.maxDepth,h 9999]
  have hc:f.eval (.const (.pointer none))=.pointer none:=rfl
  have hg:(eqGuard .eql xt o (.const (.pointer none)) (.pointer (some a)) (.pointer none)).run x.P w=.ok () w:=rfl
  simp only [execOp,hf.ev h1,hc,Sem.run_bind,hg,Result.andThen_ok,h',Sem.run_pure]) k
theorem Jq {s i n:Nat} {p:Addr} (hf:Lh x.P s i=some n) (h:ev E o=some (.pointer (some p))) (k:K (.pointer (some (p.add n)))):Y x W ⟨d,.fieldAddr s o i,ty,pos,aft,g⟩ E K :=
 De (v:=.pointer (some (p.add n))) (fun a ha w _=>by
  unfold Lh at hf
  cases hu:x.P.underlying s with
  | none=>rw [hu] at hf;cases hf
  | some td =>
   rw [hu] at hf
   cases td with
   | struct fs =>
    simp only at hf
    cases hq:fs[i]? with
    | none=>rw [hq] at hf;cases hf
    | some f =>
     rw [hq] at hf
     simp only [Option.bind_some] at hf
     cases ht:x.P.info? f.type with
     | none=>rw [ht] at hf;cases hf
     | some t =>
      rw [ht] at hf
      simp only [Option.bind_some] at hf
      split at hf
      ·cases hf
      ·rename_i hz
       injection hf with hf
       subst hf
       simp [execOp,ha.ev h,Instr.fieldAt,Instr.sureAddr,run_underlying hu,hq,fieldPlace,sizeOf,typeInfo,ht,hz]
   | _=>simp at hf) k
end
section
variable {x:Cx} {E:Env} {K:Value→Prop} {d:Option Tmp} {ty:TypeId} {pos:String} {aft:Array Edge} {g:Option (Nat×Bool)} {o q:Operand} {c:Ctx} {G:Ghost} {H:List Res}
end
section
variable {x:Cx} {Q:Exit→Env→World→Prop} {E:Env} {K:Value→World→Prop} {w:World} {d:Option Tmp} {ty:TypeId} {pos:String} {aft:Array Edge} {g:Option (Nat×Bool)} {c:Ctx} {G:Ghost} {H:List Res}
end
def K2 (a b:Int):Value:=.agg #[.int .i64 a,.int .i64 b]
theorem lG {a b c d:Int}:K2 a b=K2 c d↔a=c∧b=d:=by
 constructor
 ·intro h;injection h with h;simp at h;exact h
 ·rintro ⟨rfl,rfl⟩;rfl
structure gY (P:Program) (kt:TypeId):Prop where
 fs : ∃ f0 f1 : Field, P.underlying kt = some (.struct #[f0, f1]) ∧ f0.name ≠ "_" ∧ f1.name ≠ "_" ∧ f0.offset = 0 ∧ f1.offset = 1 ∧
  P.underlying f0.type=some (.int .i64)∧P.underlying f1.type=some (.int .i64)∧(∀ w,(isAgg f0.type).run P w=.ok false w)∧(∀ w,(isAgg f1.type).run P w=.ok false w)
 held:P.stoodInHeld kt=false
theorem gY.eq {P:Program} {kt:TypeId} (h:gY P kt) (a b c d:Int) (w:World):(Op.equal kt (K2 a b) (K2 c d)).run P w=.ok (decide (a=c∧b=d)) w:=by
 obtain ⟨⟨f0,f1,hu,hn0,hn1,ho0,ho1,ht0,ht1,hA0,hA1⟩,hh⟩:=h
 have hf:P.fieldsOf kt=#[f0,f1]:=by unfold Program.fieldsOf;rw [hu]
 have p0:∀ (u v:Value) (w:World),(part f0.type #[u,v] f0.offset).run P w=.ok u w:=fun u v w=>Gq hA0 (by rw [ho0];rfl)
 have p1:∀ (u v:Value) (w:World),(part f1.type #[u,v] f1.offset).run P w=.ok v w:=fun u v w=>Gq hA1 (by rw [ho1];rfl)
 unfold K2 Op.equal Op.maxDepth
 rw [run_equalIn_struct w 9999 kt _ _ (by rw [hf];exact hu) hh,hf]
 show (Op.eqFields 9999 _ _ [f0,f1]).run P w=_
 simp only [Op.eqFields,if_pos hn0,if_pos hn1,Sem.run_bind,p0,p1,Result.andThen_ok,run_equalIn_int w 9998 f0.type _ _ _ _ ht0]
 by_cases h1:a=c
 ·subst h1
  simp only [beq_self_eq_true,Bool.not_true,Bool.false_eq_true,if_false,Sem.run_bind,p1,Result.andThen_ok,run_equalIn_int w 9998 f1.type _ _ _ _ ht1]
  by_cases h2:b=d
  ·subst h2;simp [Op.eqFields]
  ·have:(b == d)=false:=by simpa using h2
   simp [this,h2]
 ·have:(a == c)=false:=by simpa using h1
  simp [this,h1]
theorem gY.check {P:Program} {kt:TypeId} (h:gY P kt) (em:Bool) (a b:Int) (w:World):(Instr.checkKey em 10000 kt (K2 a b)).run P w=.ok () w:=by
 obtain ⟨⟨f0,f1,hu,hn0,hn1,ho0,ho1,ht0,ht1,hA0,hA1⟩,hh⟩:=h
 have p0:∀ (u v:Value) (w:World),(part f0.type #[u,v] f0.offset).run P w=.ok u w:=fun u v w=>Gq hA0 (by rw [ho0];rfl)
 have p1:∀ (u v:Value) (w:World),(part f1.type #[u,v] f1.offset).run P w=.ok v w:=fun u v w=>Gq hA1 (by rw [ho1];rfl)
 have c0:∀ w,(Instr.checkKey em 9999 f0.type (.int .i64 a)).run P w=.ok () w:=fun w=>MapKept.run_checkKey (k:=.int .i64 a) ht0 (by simp [MapKept.IsKey]) em 9998
 have c1:∀ w,(Instr.checkKey em 9999 f1.type (.int .i64 b)).run P w=.ok () w:=fun w=>MapKept.run_checkKey (k:=.int .i64 b) ht1 (by simp [MapKept.IsKey]) em 9998
 unfold K2
 rw [Instr.checkKey]
 simp only [Sem.run_bind,run_underlying hu,Result.andThen_ok]
 rw [← Array.forIn_toList]
 simp only [List.forIn_cons,List.forIn_nil,if_pos hn0,if_pos hn1,Sem.run_bind,p0,p1,Result.andThen_ok,c0,c1,Sem.run_pure]
def Keys2 (es:List MapEntry):Prop:=∀ e∈es,∃ a b,e.key=K2 a b
theorem gY.asking {P:Program} {kt:TypeId} (h:gY P kt) (a b:Int):∀ (es:List MapEntry) (i:Nat),Keys2 es →
  ((∀ w,(Instr.findAsking kt (K2 a b) es i).run P w=.ok none w)∧∀ e∈es,e.key≠K2 a b)∨∃ j,∃ e∈es,(∀ w,(Instr.findAsking kt (K2 a b) es i).run P w=.ok (some (j,e.val)) w)∧e.key=K2 a b
 | [],i,_=>.inl ⟨fun w=>by simp [Instr.findAsking],by simp⟩
 | e::es,i,hk=>by
  obtain ⟨c,d,hcd⟩:=hk e Dr
  have hr:=fun w=>h.eq a b c d w
  by_cases hab:a=c∧b=d
  ·right
   refine ⟨i,e,by simp,fun w=>?_,by rw [hcd,hab.1,hab.2]⟩
   rw [Instr.findAsking,Sem.run_bind,hcd,hr,decide_eq_true hab]
   simp
  ·have hne:e.key≠K2 a b:=fun he=>by rw [hcd,lG] at he;exact hab ⟨he.1.symm,he.2.symm⟩
   rcases h.asking a b es (i+1) (fun x hx=>hk x (by simp [hx])) with ⟨h1,h2⟩ | ⟨j,e',h1,h2,h3⟩
   ·left
    refine ⟨fun w=>?_,fun x hx=>?_⟩
    ·rw [Instr.findAsking,Sem.run_bind,hcd,hr,decide_eq_false hab];simp [h1]
    ·rcases List.mem_cons.1 hx with rfl | hx
     ·exact hne
     ·exact h2 x hx
   ·right
    exact ⟨j,e',by simp [h1],fun w=>by rw [Instr.findAsking,Sem.run_bind,hcd,hr,decide_eq_false hab];simp [h2],h3⟩
theorem gY.find {P:Program} {kt:TypeId} (h:gY P kt) (a b:Int) (es:List MapEntry) (hk:Keys2 es) :
  ((∀ w,(Instr.findKey kt (K2 a b) es).run P w=.ok none w)∧∀ e∈es,e.key≠K2 a b)∨∃ j,∃ e∈es,(∀ w,(Instr.findKey kt (K2 a b) es).run P w=.ok (some (j,e.val)) w)∧e.key=K2 a b:=by
 obtain ⟨f0,f1,hu,_⟩:=h.fs
 cases es with
 | nil=>exact .inl ⟨fun w=>by simp [Instr.findKey,run_underlying hu,Instr.findNow],by simp⟩
 | cons e es =>
  obtain ⟨c,d,hcd⟩:=hk e Dr
  have hn:Instr.findNow (.struct #[f0,f1]) (K2 a b) (e::es) 0=none:=by
   rw [Instr.findNow,hcd];rfl
  have hf:∀ w,(Instr.findKey kt (K2 a b) (e::es)).run P w=(Instr.findAsking kt (K2 a b) (e::es) 0).run P w:=fun w=>by
   simp only [Instr.findKey,Sem.run_bind,run_underlying hu,Result.andThen_ok,hn]
  simp only [hf]
  exact h.asking a b (e::es) 0 hk
section
variable {x:Cx} {Q:Exit→Env→World→Prop} {E:Env} {d:Option Tmp} {ty:TypeId} {pos:String} {aft:Array Edge} {g:Option (Nat×Bool)} {c:Ctx} {G:Ghost} {H:List Res}
end
end Go.Ex
namespace Go.Ex
open Go
def Rq (M:List (Nat×Value)):List Nat→Option (List (Nat×Value))
 | []=>some []
 | k::ks=>match Ge M k with
  | none=>none
  | some u=>match Rq M ks with
   | none=>none
   | some L=>some ((k,u)::L)
theorem Ll {M:List (Nat×Value)}:∀ {ks:List Nat} {L:List (Nat×Value)},Rq M ks=some L→Ja L M
 | [],L,h=>by cases h;trivial
 | k::ks,L,h=>by
  unfold Rq at h
  cases h1:Ge M k with
  | none=>rw [h1] at h;cases h
  | some u =>
   rw [h1] at h;dsimp only at h
   cases h2:Rq M ks with
   | none=>rw [h2] at h;cases h
   | some L2=>rw [h2] at h;cases h;exact ⟨h1,Ll h2⟩
theorem T_kp {x:Cx} {Q:Exit→Env→World→Prop} {w:World} {D:List Deferred} {M L:List (Nat×Value)} {c:Code} (ks:List Nat) (h:Rq M ks=some L) (hT:T x c Q ⟨D,L⟩ w):T x c Q ⟨D,M⟩ w:=Xb L (Ll h) hT
section
variable {x:Cx} {ops:Array Oper} {Q:Exit→Env→World→Prop} {w:World} {t:Tmp} {o:Operand} {v:Value} {ty:TypeId} {pos:String} {aft:Array Edge} {l:List Oper} {D:List Deferred} {L:List (Nat×Value)}
end
section
variable {c:Ctx} {G:Ghost} {H:List Res} {w:World} {r1 r2 r3 r4 r5 r6 r7 r8:Res}
theorem St.f1 (h:St c G (r1::r2::H) w):St c G (r2::r1::H) w:=h.front 1 rfl rfl
theorem St.f2 (h:St c G (r1::r2::r3::H) w):St c G (r3::r1::r2::H) w:=h.front 2 rfl rfl
theorem St.f3 (h:St c G (r1::r2::r3::r4::H) w):St c G (r4::r1::r2::r3::H) w:=h.front 3 rfl rfl
theorem St.f4 (h:St c G (r1::r2::r3::r4::r5::H) w):St c G (r5::r1::r2::r3::r4::H) w:=h.front 4 rfl rfl
theorem St.f5 (h:St c G (r1::r2::r3::r4::r5::r6::H) w):St c G (r6::r1::r2::r3::r4::r5::H) w:=h.front 5 rfl rfl
theorem St.f6 (h:St c G (r1::r2::r3::r4::r5::r6::r7::H) w):St c G (r7::r1::r2::r3::r4::r5::r6::H) w:=h.front 6 rfl rfl
theorem St.f7 (h:St c G (r1::r2::r3::r4::r5::r6::r7::r8::H) w):St c G (r8::r1::r2::r3::r4::r5::r6::r7::H) w:=h.front 7 rfl rfl
end
end Go.Ex
namespace Go.Ex
open Go Go.RowKit
def B (x:Cx) (ops:Array Oper) (Q:Exit→Env→World→Prop) (fuel:Nat) (listed:Array Bool) (E:Env) (w:World):Prop :=
 Ly x.N ops.toList=true→∀ a,Ag x.N E a→wpAnyIn (RF x.r) 0 x.P .any ops (Tp x.N Q) fuel listed a w
section
variable {x:Cx} {ops:Array Oper} {Q:Exit→Env→World→Prop} {E:Env} {w:World}
end
section
variable {x:Cx} {E:Env} {d:Option Tmp} {ty:TypeId} {pos:String} {aft:Array Edge} {g:Option (Nat×Bool)} {c:Ctx} {G:Ghost} {H:List Res} {w:World} {Q:Exit→Env→World→Prop} {K:Value→World→Prop}
def lH (cs:Array Value) (s:List UInt8) (cap:Nat):Prop:=cs.toList.take s.length=s.map Kc∧s.length≤cap∧cap≤maxLen∧s.length≤cs.size
theorem lH.set {cs:Array Value} {s:List UInt8} {cap i:Nat} {b:UInt8} (h:lH cs s cap):lH (cs.setIfInBounds i (Kc b)) (s.set i b) cap:=by
 obtain ⟨h1,h2,h3,h4⟩:=h
 refine ⟨?_,by simpa using h2,h3,by simpa using h4⟩
 rw [List.length_set,Array.toList_setIfInBounds,List.take_set,h1,List.map_set]
end
section
variable {x:Cx} {W:World→Prop} {E:Env} {K:Value→Prop} {d:Option Tmp} {ty:TypeId} {pos:String} {aft:Array Edge} {g:Option (Nat×Bool)}
theorem Jx {o q:Operand} {t e:TypeId} {kd:IntKind} {n s:Nat} {p:Addr} {j:Int} (i:Nat) (hu:x.P.underlying t=some (.array n e)) (hs:∀ w,(sizeOf e).run x.P w=.ok s w)
  (h1:ev E o=some (.pointer (some p))) (h2:ev E q=some (.int kd j)) (hj:j=(i:Int)) (hlt:i<n)
  (k:K (.pointer (some (p.add (i*s))))):Y x W ⟨d,.indexAddr t o q,ty,pos,aft,g⟩ E K:=by
 subst hj
 refine De (v:=.pointer (some (p.add (i*s)))) (fun f hf w _=>?_) k
 simp [execOp,hf.ev h1,hf.ev h2,Instr.indexAt,asIntOf,run_underlying hu,hs w,hlt,Instr.sureAddr]
theorem cQ {k:Nat}:∀ (cs:List (List Value)) (n:Nat),(∀ c∈cs,c.length=k)→(cs.drop n).flatten=cs.flatten.drop (n*k)
 | cs,0,_=>by simp
 | [],n+1,_=>by simp
 | c::cs,n+1,h=>by
  have hc:=h c Dr
  have e1:c.drop (n*k+k)=[]:=List.drop_eq_nil_of_le Dz
  rw [List.drop_succ_cons,cQ cs n fun d hd=>h d (by simp [hd]),List.flatten_cons,Nat.add_mul,Nat.one_mul,List.drop_append,e1,List.nil_append,hc,Nat.add_sub_cancel]
theorem cS {k:Nat}:∀ (cs:List (List Value)) (n:Nat),(∀ c∈cs,c.length=k)→(cs.take n).flatten=cs.flatten.take (n*k)
 | cs,0,_=>by simp
 | [],n+1,_=>by simp
 | c::cs,n+1,h=>by
  have hc:=h c Dr
  have e1:c.take (n*k+k)=c:=List.take_of_length_le Dz
  rw [List.take_succ_cons,List.flatten_cons,List.flatten_cons,cS cs n fun d hd=>h d (by simp [hd]),Nat.add_mul,Nat.one_mul,List.take_append,e1,hc,Nat.add_sub_cancel]
theorem Be.sub {α:Type} {k:Nat} {R:Ghost→List Value→α→Prop} {G:Ghost} {v:Value} {a:List α} {l h:Nat} {cs:List (List Value)} (hh:h≤a.length) (hl:l≤h) (h2:Cj (R G) cs a) (h3:∀ c∈cs,c.length=k)
  (hv:Sl G v k (h-l) ((cs.flatten.drop (l*k)).take ((h-l)*k))):Be k R G v ((a.drop l).take (h-l)):=by
 refine ⟨(cs.drop l).take (h-l),?_,(h2.drop l).take _,fun c hc=>h3 c (List.mem_of_mem_drop (List.mem_of_mem_take hc))⟩
 have hl2:((a.drop l).take (h-l)).length=h-l:=by rw [List.length_take,List.length_drop];omega
 rw [hl2,cS _ _ fun c hc=>h3 c (List.mem_of_mem_drop hc),cQ _ _ h3]
 exact hv
end
end Go.Ex
namespace Go.Ex
open Go Go.RowKit Go.ChangeShapes Go.WideShapes Go.ChangeAt
section
variable {H:Type} {enc:TypeId×Value→H} {P:Program}
theorem flat_len {k:Nat}:∀ ls:List (List Value),(∀ c∈ls,c.length=k)→ls.flatten.length=ls.length*k
 | [],_=>by simp
 | c::ls,h=>by
  rw [List.flatten_cons,List.length_append,h c Dr,flat_len ls fun m hm=>h m (by simp [hm]),List.length_cons,Nat.add_mul];omega
theorem u8_of {z:Int} (h:(Lit.int .u8 z).wf=true):∃ y:UInt8,z=(y.toNat:Int):=by
 have hx:0≤z∧z≤255:=by simpa [Lit.wf,IntKind.min,IntKind.max,IntKind.signed,IntKind.bits] using h
 exact ⟨UInt8.ofNat z.toNat,by rw [UInt8.toNat_ofNat'];omega⟩
end
end Go.Ex
namespace Go.Ex
open Go Go.RowKit
def Da {α:Type} [DecidableEq α] (k:α):List α→Nat
 | []=>0
 | x::l=>if x=k then 0 else Da k l+1
theorem nZ {α:Type} [DecidableEq α] (k:α):∀ l:List α,Da k l≤l.length
 | []=>Nat.le_refl _
 | x::l=>by
  have:=nZ k l
  rw [Da];split
  ·simp
  ·rw [List.length_cons];omega
theorem Fy {α:Type} [DecidableEq α] {k:α}:∀ {l:List α},Da k l<l.length↔k∈l
 | []=>by simp [Da]
 | x::l=>by
  have ih:=Fy (k:=k) (l:=l)
  rw [Da]
  by_cases h:x=k
  ·rw [if_pos h];simp [h]
  ·rw [if_neg h,List.length_cons,List.mem_cons]
   constructor
   ·intro h2;exact .inr (ih.1 Dz)
   ·rintro (h2 | h2)
    ·exact absurd h2.symm h
    ·have:=ih.2 h2;omega
theorem Kd {α:Type} [DecidableEq α] {k:α}:∀ {l:List α} (h:Da k l<l.length),l[Da k l]=k
 | [],h=>by simp [Da] at h
 | x::l,h=>by
  by_cases hx:x=k
  ·have:Da k (x::l)=0:=by rw [Da,if_pos hx]
   simp only [this];exact hx
  ·have h2:Da k (x::l)=Da k l+1:=by rw [Da,if_neg hx]
   simp only [h2,List.getElem_cons_succ]
   exact Kd (by rw [h2,List.length_cons] at h;omega)
structure Ie {α:Type} (P:Program) (kt:TypeId) (enc:α→Value):Prop where
 inj:∀ a b,enc a=enc b→a=b
 check:∀ em a w,(Instr.checkKey em 10000 kt (enc a)).run P w=.ok () w
 find:∀ (a:α) (es:List MapEntry),(∀ e∈es,∃ b,e.key=enc b) →
  ((∀ w,(Instr.findKey kt (enc a) es).run P w=.ok none w)∧∀ e∈es,e.key≠enc a)∨∃ j,∃ e∈es,(∀ w,(Instr.findKey kt (enc a) es).run P w=.ok (some (j,e.val)) w)∧e.key=enc a
def Ke {α:Type} (enc:α→Value):Nat→List α→List MapEntry
 | _,[]=>[]
 | i,k::ks=>Ko (enc k) (.int .i64 (i:Int)) i::Ke enc (i+1) ks
def Ff {α:Type} (enc:α→Value) (ks:List α):List MapEntry:=Ke enc 0 ks
theorem Vd {α:Type} (enc:α→Value) (k:α):∀ (i:Nat) (ks:List α),Ke enc i (ks++[k])=Ke enc i ks++[Ko (enc k) (.int .i64 ((i+ks.length:Nat):Int)) (i+ks.length)]
 | i,[]=>by simp [Ke]
 | i,x::ks=>by rw [List.cons_append,Ke,Vd enc k (i+1) ks,Ke,List.length_cons,show i+1+ks.length=i+(ks.length+1) by omega];rfl
theorem rB {α:Type} (enc:α→Value) (k:α) (ks:List α):Ff enc (ks++[k])=Ff enc ks++[Ko (enc k) (.int .i64 (ks.length:Int)) ks.length]:=by
 unfold Ff;rw [Vd,Nat.zero_add]
theorem Xz {α:Type} {enc:α→Value}:∀ {i:Nat} {ks:List α} {e:MapEntry},e∈Ke enc i ks→∃ j,∃ h:j<ks.length,e=Ko (enc ks[j]) (.int .i64 ((i+j:Nat):Int)) (i+j)
 | i,[],e,h=>by cases h
 | i,k::ks,e,h=>by
  rcases List.mem_cons.1 h with rfl | h
  ·exact ⟨0,by simp,by simp⟩
  ·obtain ⟨j,hj,rfl⟩:=Xz h
   exact ⟨j+1,by simp;exact hj,by rw [show i+1+j=i+(j+1) by omega];simp⟩
theorem gZ {α:Type} {enc:α→Value} {ks:List α} {e:MapEntry} (h:e∈Ff enc ks):∃ j,∃ h:j<ks.length,e=Ko (enc ks[j]) (.int .i64 (j:Int)) j:=by
 obtain ⟨j,hj,he⟩:=Xz h
 exact ⟨j,hj,by rw [he,Nat.zero_add]⟩
theorem Yb {α:Type} {enc:α→Value}:∀ {i:Nat} {ks:List α} {j:Nat} (h:j<ks.length),Ko (enc ks[j]) (.int .i64 ((i+j:Nat):Int)) (i+j)∈Ke enc i ks
 | i,k::ks,0,h=>by simp [Ke]
 | i,k::ks,j+1,h=>by
  rw [Ke]
  refine List.mem_cons_of_mem _ ?_
  have:=Yb (enc:=enc) (i:=i+1) (ks:=ks) (j:=j) bT
  rw [show i+1+j=i+(j+1) by omega] at this
  simpa using this
theorem Ie.has {α:Type} [DecidableEq α] {P:Program} {kt:TypeId} {enc:α→Value} (hk:Ie P kt enc) (a:α) (ks:List α) (hnd:ks.Nodup) :
  (¬ Da a ks<ks.length∧∀ w,(Instr.findKey kt (enc a) (Ff enc ks)).run P w=.ok none w)∨(Da a ks<ks.length∧∃ j,∀ w,(Instr.findKey kt (enc a) (Ff enc ks)).run P w=.ok (some (j,.int .i64 (Da a ks:Int))) w):=by
 rcases hk.find a (Ff enc ks) (fun e he=>by obtain ⟨j,hj,rfl⟩:=gZ he;exact ⟨_,rfl⟩) with ⟨h1,h2⟩ | ⟨j,e,he,h1,h2⟩
 ·left
  refine ⟨fun hp=>?_,h1⟩
  have:=Yb (enc:=enc) (i:=0) hp
  refine h2 _ this ?_
  show enc ks[Da a ks]=enc a
  rw [Kd hp]
 ·right
  obtain ⟨i,hi,rfl⟩:=gZ he
  have hia:ks[i]=a:=hk.inj _ _ h2
  have hp:Da a ks<ks.length:=Fy.2 (by rw [← hia];exact List.getElem_mem hi)
  refine ⟨hp,j,fun w=>?_⟩
  have:i=Da a ks:=(List.getElem_inj hnd).1 (hia.trans (Kd hp).symm)
  rw [h1 w]
  show Result.ok (some (j,Value.int .i64 (i:Int))) w=_
  rw [this]
section
variable {x:Cx} {Q:Exit→Env→World→Prop} {E:Env} {d:Option Tmp} {ty:TypeId} {pos:String} {aft:Array Edge} {g:Option (Nat×Bool)} {c:Ctx} {G:Ghost} {H:List Res}
theorem Jy {α:Type} [DecidableEq α] {enc:α→Value} {K:Value→Prop} {t kt et:TypeId} {m kx:Operand} {b clk:Nat} {ks:List α} {a:α} {z:Value} (i:Nat) (hi:H[i]?=some (.obj b (.map (Ff enc ks).toArray clk))) (hu:x.P.underlying t=some (.map kt et)) (hk:Ie x.P kt enc) (hz:∀ w,(zeroValue et).run x.P w=.ok z w) (hnd:ks.Nodup)
  (h1:ev E m=some (.map (some b))) (h2:ev E kx=some (enc a)) (kf:¬ Da a ks<ks.length→K (.tuple #[z,.bool false])) (kt':Da a ks<ks.length→K (.tuple #[.int .i64 (Da a ks:Int),.bool true])):Y x (St c G H) ⟨d,.lookup t m kx true,ty,pos,aft,g⟩ E K:=by
 rcases hk.has a ks hnd with ⟨h3,h4⟩ | ⟨h3,j,h4⟩
 ·refine De (v:=.tuple #[z,.bool false]) (fun a' ha w hw=>?_) (kf h3)
  have hb:w.heap[b]?=some (.map (Ff enc ks).toArray clk):=hw.hold _ (List.mem_of_getElem? hi)
  simp only [execOp,ha.ev h1,ha.ev h2]
  simp [Instr.lookup,run_underlying hu,MapKept.run_getObj_map hb,hk.check,h4,hz,Result.andThen]
 ·refine De (v:=.tuple #[.int .i64 (Da a ks:Int),.bool true]) (fun a' ha w hw=>?_) (kt' h3)
  have hb:w.heap[b]?=some (.map (Ff enc ks).toArray clk):=hw.hold _ (List.mem_of_getElem? hi)
  simp only [execOp,ha.ev h1,ha.ev h2]
  simp [Instr.lookup,run_underlying hu,MapKept.run_getObj_map hb,hk.check,h4,Result.andThen]
theorem hZ {α:Type} [DecidableEq α] {enc:α→Value} {P:Program} {w:World} {t kt et:TypeId} {b:Nat} {ks:List α} {a:α} (hu:P.underlying t=some (.map kt et)) (hk:Ie P kt enc) (hnd:ks.Nodup) (hno:¬ Da a ks<ks.length)
  (hb:w.heap[b]?=some (.map (Ff enc ks).toArray ks.length)):(Instr.mapUpdate t (.map (some b)) (enc a) (.int .i64 (ks.length:Int))).run P w=.ok () (w.putObj b (.map (Ff enc (ks++[a])).toArray (ks++[a]).length)):=by
 have hf:∀ w,(Instr.findKey kt (enc a) (Ff enc ks)).run P w=.ok none w:=by
  rcases hk.has a ks hnd with ⟨_,h4⟩ | ⟨h3,_⟩
  ·exact h4
  ·exact absurd h3 hno
 rw [rB,List.length_append,List.length_singleton]
 simp [Instr.mapUpdate,run_underlying hu,MapKept.run_getObj_map hb,hk.check,hf,MapKept.run_setObj_map _ hb,Result.andThen,World.putObj,Ko]
theorem Yd {α:Type} [DecidableEq α] {enc:α→Value} {K:Value→World→Prop} {w:World} {t kt et:TypeId} {m kx vx:Operand} {b:Nat} {ks:List α} {a:α} (hs:St c G (.obj b (.map (Ff enc ks).toArray ks.length)::H) w) (hu:x.P.underlying t=some (.map kt et)) (hk:Ie x.P kt enc) (hnd:ks.Nodup) (hno:¬ Da a ks<ks.length)
  (h1:ev E m=some (.map (some b))) (h2:ev E kx=some (enc a)) (h3:ev E vx=some (.int .i64 (ks.length:Int)))
  (k:∀ w',St c G (.obj b (.map (Ff enc (ks++[a])).toArray (ks++[a]).length)::H) w'→K undef w'):S x ⟨d,.mapUpdate t m kx vx,ty,pos,aft,g⟩ Q K E w:=by
 have hb:w.heap[b]?=some (.map (Ff enc ks).toArray ks.length):=hs.hold (.obj b _) Dr
 have hr:=hZ (a:=a) hu hk hnd hno hb
 refine Xj rfl fun a' ha=>⟨w.putObj b (.map (Ff enc (ks++[a])).toArray (ks++[a]).length),?_,k _ (hs.write rfl rfl rfl Dr (fun k _ hk=>World.putObj_heap_other hk) (World.putObj_heap_same (Dk hb)) (fun k hk=>.inl hk))⟩
 simp only [execOp,ha.ev h1,ha.ev h2,ha.ev h3]
 simp [hr]
theorem S_insK {α:Type} [DecidableEq α] {enc:α→Value} {K:Value→World→Prop} {w:World} {t kt et:TypeId} {m kx vx:Operand} {b:Nat} {ks:List α} {a:α} (hs:St c G (.obj b (.map (Ff enc ks).toArray ks.length)::H) w) (hu:x.P.underlying t=some (.map kt et)) (hk:Ie x.P kt enc) (hnd:ks.Nodup) (hno:¬ Da a ks<ks.length)
  (h1:ev E m=some (.map (some b))) (h2:ev E kx=some (enc a)) (h3:ev E vx=some (.int .i64 (ks.length:Int)))
  (k:∀ w',St c G (.obj b (.map (Ff enc (ks++[a])).toArray (ks++[a]).length)::H) w'→K undef w'):S x ⟨d,.insert t m kx vx,ty,pos,aft,g⟩ Q K E w:=by
 have hb:w.heap[b]?=some (.map (Ff enc ks).toArray ks.length):=hs.hold (.obj b _) Dr
 have hr:=hZ (a:=a) hu hk hnd hno hb
 refine Xj rfl fun a' ha=>⟨w.putObj b (.map (Ff enc (ks++[a])).toArray (ks++[a]).length),?_,k _ (hs.write rfl rfl rfl Dr (fun k _ hk=>World.putObj_heap_other hk) (World.putObj_heap_same (Dk hb)) (fun k hk=>.inl hk))⟩
 simp only [execOp,ha.ev h1,ha.ev h2,ha.ev h3]
 simp [hr]
end
def Rr (s:List UInt8):Value:=.string ⟨s.toArray⟩
theorem Ie.str {P:Program} {kt:TypeId} (h:P.underlying kt=some .string):Ie P kt Rr where
 inj a b h:=by
  injection h with h
  have h2:a.toArray=b.toArray:=congrArg ByteArray.data h
  simpa using h2
 check em a w:=MapKept.run_checkKey (k:=Rr a) h (by simp [MapKept.IsKey,Rr]) em 9999
 find a es hes:=by
  have hik:∀ e∈es,MapKept.IsKey .string e.key:=fun e he=>by obtain ⟨b,hb⟩:=hes e he;rw [hb];simp [MapKept.IsKey,Rr]
  rcases MapKept.findNow_spec (d:=.string) (k:=Rr a) (by simp [MapKept.IsKey,Rr]) es 0 hik with ⟨h1,h2⟩ | ⟨j,e,h1,h2,h3⟩
  ·exact .inl ⟨fun w=>MapKept.run_findKey h h1,h2⟩
  ·exact .inr ⟨0+j,e,List.mem_of_getElem? h2,fun w=>MapKept.run_findKey h h1,h3⟩
theorem Ie.asked {α:Type} [DecidableEq α] {P:Program} {kt:TypeId} {td:TypeDesc} {enc:α→Value} (hu:P.underlying kt=some td) (hinj:∀ a b,enc a=enc b→a=b) (hc:∀ em a w,(Instr.checkKey em 10000 kt (enc a)).run P w=.ok () w)
  (hn:∀ a b,Instr.sameNow td (enc a) (enc b)=none) (heq:∀ a b w,(Op.equal kt (enc a) (enc b)).run P w=.ok (decide (a=b)) w):Ie P kt enc where
 inj:=hinj
 check:=hc
 find a es hes:=by
  have ask:∀ (es:List MapEntry) (i:Nat),(∀ e∈es,∃ b,e.key=enc b) →
    ((∀ w,(Instr.findAsking kt (enc a) es i).run P w=.ok none w)∧∀ e∈es,e.key≠enc a)∨∃ j,∃ e∈es,(∀ w,(Instr.findAsking kt (enc a) es i).run P w=.ok (some (j,e.val)) w)∧e.key=enc a:=by
   intro es
   induction es with
   | nil=>intro i _;exact .inl ⟨fun w=>by simp [Instr.findAsking],by simp⟩
   | cons e es ih =>
    intro i hk
    obtain ⟨b,hb⟩:=hk e Dr
    by_cases hab:a=b
    ·right
     refine ⟨i,e,by simp,fun w=>?_,by rw [hb,hab]⟩
     rw [Instr.findAsking,Sem.run_bind,hb,heq,decide_eq_true hab]
     simp
    ·have hne:e.key≠enc a:=fun he=>hab (hinj _ _ (he.symm.trans hb))
     rcases ih (i+1) (fun x hx=>hk x (by simp [hx])) with ⟨h1,h2⟩ | ⟨j,e',h1,h2,h3⟩
     ·left
      refine ⟨fun w=>?_,fun x hx=>?_⟩
      ·rw [Instr.findAsking,Sem.run_bind,hb,heq,decide_eq_false hab];simp [h1]
      ·rcases List.mem_cons.1 hx with rfl | hx
       ·exact hne
       ·exact h2 x hx
     ·right
      exact ⟨j,e',by simp [h1],fun w=>by rw [Instr.findAsking,Sem.run_bind,hb,heq,decide_eq_false hab];simp [h2],h3⟩
  cases es with
  | nil=>exact .inl ⟨fun w=>by simp [Instr.findKey,run_underlying hu,Instr.findNow],by simp⟩
  | cons e es =>
   obtain ⟨b,hb⟩:=hes e Dr
   have h1:Instr.findNow td (enc a) (e::es) 0=none:=by rw [Instr.findNow,hb,hn]
   have hf:∀ w,(Instr.findKey kt (enc a) (e::es)).run P w=(Instr.findAsking kt (enc a) (e::es) 0).run P w:=fun w=>by
    simp only [Instr.findKey,Sem.run_bind,run_underlying hu,Result.andThen_ok,h1]
   simp only [hf]
   exact ask (e::es) 0 hes
section
variable {x:Cx} {E:Env} {d:Option Tmp} {ty:TypeId} {pos:String} {aft:Array Edge} {g:Option (Nat×Bool)} {c:Ctx} {G:Ghost} {H:List Res}
theorem Cy {W:World→Prop} {K:Value→Prop} {o q:Operand} {t e:TypeId} {kd:IntKind} {n cap b k:Nat} {j:Int} (i:Nat) (hu:x.P.underlying t=some (.slice e)) (hs:∀ w,(sizeOf e).run x.P w=.ok k w)
  (h1:ev E o=some (.slice (some ⟨b,0,none⟩) n cap)) (h2:ev E q=some (.int kd j)) (hj:j=(i:Int)) (hlt:i<n)
  (kk:K (.pointer (some ⟨b,i*k,none⟩))):Y x W ⟨d,.indexAddr t o q,ty,pos,aft,g⟩ E K:=by
 subst hj
 refine De (v:=.pointer (some ⟨b,i*k,none⟩)) (fun f hf w _=>?_) kk
 have ha:(⟨b,0,none⟩:Addr).add (i*k)=⟨b,i*k,none⟩:=by
  unfold Addr.add;split
  ·rename_i h0;simp [h0]
  ·simp
 simp [execOp,hf.ev h1,hf.ev h2,Instr.indexAt,asIntOf,run_underlying hu,hs w,hlt]
 exact ha
theorem He {K:Value→Prop} {o:Operand} {t b i e n cap k:Nat} {xs vs:List Value} (h:Nat) (hi:H[h]?=some (.row e k (.slice (some ⟨b,0,none⟩) n cap) n xs)) (hA:∀ w,(isAgg t).run x.P w=.ok true w) (hS:∀ w,(sizeOf t).run x.P w=.ok k w)
  (ho:ev E o=some (.pointer (some ⟨b,i*k,none⟩))) (hn:i<n) (hv:(xs.drop (i*k)).take k=vs) (hl:vs.length=k) (kk:K (.agg vs.toArray)):Y x (St c G H) ⟨d,.load t o,ty,pos,aft,g⟩ E K:=by
 refine De (v:=.agg vs.toArray) (fun f hf w hw=>?_) kk
 have hown:w.ownsRow 0 e k (.slice (some ⟨b,0,none⟩) n cap) n xs:=hw.hold _ (List.mem_of_getElem? hi)
 rcases hown.2 with ⟨h0,_⟩ | ⟨g',cp,cur,h0,_,hh,hnc,_,hsz,htk⟩
 ·cases h0
 injection h0 with h1' h2' h3'
 injection h1' with h1'
 injection h1' with h1'
 subst h1' h3'
 have hnk:i*k+k≤n*k:=by rw [← Nat.succ_mul];exact Nat.mul_le_mul_right _ hn
 have hr:(loadVar t ⟨b,i*k,none⟩).run x.P w=.ok (.agg vs.toArray) w:=by
  refine Hj (hA w) (hS w) hl fun j u hj=>?_
  have hjk:j<k:=by
   have:=(List.getElem?_eq_some_iff.1 hj).1
   omega
  have hadd:(⟨b,i*k,none⟩:Addr).add j=⟨b,i*k+j,none⟩:=by
   unfold Addr.add;split
   ·rename_i h0;simp [h0]
   ·rfl
  rw [hadd]
  rw [← hv,List.getElem?_take_of_lt hjk,List.getElem?_drop,← htk,List.getElem?_take_of_lt Dz,Array.getElem?_toList] at hj
  simp [World.cell?,hh,hj]
 simp [execOp,hf.ev ho,Instr.loadAt,Instr.sureAddr,hr]
end
section
variable {x:Cx} {Q:Exit→Env→World→Prop} {E:Env} {K:Value→World→Prop} {w:World} {d:Option Tmp} {ty:TypeId} {pos:String} {aft:Array Edge} {g:Option (Nat×Bool)} {c:Ctx} {G:Ghost} {H:List Res}
theorem Oa {o p:Operand} {t b i e n cap k:Nat} {xs vs:List Value} (hs:St c G (.row e k (.slice (some ⟨b,0,none⟩) n cap) n xs::H) w) (hS:∀ w,(sizeOf t).run x.P w=.ok k w) (h1:ev E o=some (.pointer (some ⟨b,i*k,none⟩))) (h2:ev E p=some (.agg vs.toArray))
  (hl:vs.length=k) (hone:vs.all (·.oneCell')=true) (hi:i<n) (kk:∀ w',St c G (.row e k (.slice (some ⟨b,0,none⟩) n cap) n (xs.take (i*k)++vs++xs.drop (i*k+k))::H) w'→K undef w'):S x ⟨d,.store t o p,ty,pos,aft,g⟩ Q K E w:=by
 have hown:w.ownsRow 0 e k (.slice (some ⟨b,0,none⟩) n cap) n xs:=hs.hold (.row e k _ n xs) Dr
 rcases hown.2 with ⟨h,_⟩ | ⟨g',cp,cur,h,h0,hh,hnc,hcm,hsz,htk⟩
 ·cases h
 injection h with h1' h2' h3'
 injection h1' with h1'
 injection h1' with h1'
 subst h1' h3'
 have hnk:i*k+k≤n*k:=by rw [← Nat.succ_mul];exact Nat.mul_le_mul_right _ hi
 have hck:n*k≤cap*k:=Nat.mul_le_mul_right _ hnc
 have hb:St c G (.blk b e cur.toList::H) w:=hs.write rfl rfl rfl (Nat.le_refl _) (fun _ _ _=>rfl) (by simpa [Res.holds] using hh) (fun k hk=>.inl Z23)
 have hcl:i*k+k≤cur.toList.length:=by rw [Array.length_toList];omega
 refine Es hb hS h1 h2 hl hone hcl rfl fun w' hs'=>kk w' ?_
 have hh':w'.heap[b]?=some (.cells (cur.toList.take (i*k)++vs++cur.toList.drop (i*k+k)).toArray e (0,0)):=hs'.hold (.blk b e _) Dr
 have htk2:(cur.toList.take (i*k)++vs++cur.toList.drop (i*k+k)).take (n*k)=xs.take (i*k)++vs++xs.drop (i*k+k):=by
  have e1:(cur.toList.take (i*k)).length=i*k:=by rw [List.length_take];omega
  have e2:(cur.toList.take (i*k)).take (n*k)=cur.toList.take (i*k):=List.take_of_length_le Dz
  have e3:vs.take (n*k-i*k)=vs:=List.take_of_length_le Dz
  have e4:(cur.toList.take (n*k)).take (i*k)=cur.toList.take (i*k):=by rw [List.take_take,Nat.min_eq_left Dz]
  rw [← htk,List.take_append,List.take_append,List.length_append,e1,hl,e2,e3,e4,List.drop_take]
 have hlen:(cur.toList.take (i*k)++vs++cur.toList.drop (i*k+k)).length=cap*k:=by
  simp only [List.length_append,List.length_take,List.length_drop,Array.length_toList,hl];omega
 refine hs'.write rfl rfl rfl (Nat.le_refl _) (fun _ _ _=>rfl) ⟨by have h:=hown.1;simp only [List.length_append,List.length_take,List.length_drop,hl];omega,.inr ⟨b,cap,_,rfl,h0,hh',hnc,hcm,by simpa using hlen,by simpa using htk2⟩⟩ (fun k hk=>.inl (by
  have h9:b=k:=by simpa [Res.foot,Value.ownBlock] using hk
  exact h9.symm))
end
theorem Iw {P:Program} {w:World} (d:Nat) {e:TypeId} {k:IntKind} (he:P.underlying e=some (.int k)) (a b:Int):(Op.equalIn (d+1) e (.int k a) (.int k b)).run P w=.ok (decide (a=b)) w:=by
 rw [run_equalIn_int w d e _ _ _ _ he]
 congr 1
theorem Tx {P:Program} {w:World} (d:Nat) {t e:TypeId} {k:IntKind} (ht:P.underlying t=some (.array 2 e)) (hS:∀ w,(sizeOf e).run P w=.ok 1 w) (hA:∀ w,(isAgg e).run P w=.ok false w) (he:P.underlying e=some (.int k)) (a0 a1 b0 b1:Int) :
  (Op.equalIn (d+2) t (.agg #[.int k a0,.int k a1]) (.agg #[.int k b0,.int k b1])).run P w=.ok (decide (a0=b0) && decide (a1=b1)) w:=by
 have hp:∀ (c0 c1:Int) (i:Nat) (v:Value),[Value.int k c0,.int k c1][i]?=some v→∀ w,(part e #[.int k c0,.int k c1] i).run P w=.ok v w:=fun c0 c1 i v h w=>Gq hA bT
 have q0:=fun w=>Iw (P:=P) (w:=w) d he a0 b0;have q1:=fun w=>Iw (P:=P) (w:=w) d he a1 b1
 have e0:=hp a0 a1 0 _ rfl;have e1:=hp a0 a1 1 _ rfl
 have k0:=hp b0 b1 0 _ rfl;have k1:=hp b0 b1 1 _ rfl
 rw [Op.equalIn]
 simp only [Sem.run_bind,run_underlying ht,Result.andThen_ok,hS,Std.Legacy.Range.forIn_eq_forIn_range',Std.Legacy.Range.size]
 rw [show List.range' 0 ((2-0+1-1) / 1)=[0,1] from rfl]
 generalize decide (a0=b0)=r0 at *
 generalize decide (a1=b1)=r1 at *
 simp only [List.forIn_cons,List.forIn_nil,Sem.run_bind,Nat.zero_mul,Nat.one_mul,Nat.mul_one,e0,e1,k0,k1,q0,q1,Result.andThen_ok]
 cases r0<;>simp only [Bool.not_true,Bool.not_false,Bool.false_eq_true,if_true,if_false,Sem.run_pure,Result.andThen_ok,Bool.false_and,Bool.true_and]
 cases r1<;>simp only [Bool.not_true,Bool.not_false,Bool.false_eq_true,if_true,if_false,Sem.run_pure,Result.andThen_ok,Sem.run_bind,e1,k1,q1]
theorem Jr {P:Program} {w:World} (em:Bool) (d:Nat) {e:TypeId} {k:IntKind} (he:P.underlying e=some (.int k)) (a:Int):(Instr.checkKey em (d+1) e (.int k a)).run P w=.ok () w:=by
 rw [Instr.checkKey];simp [run_underlying he]
theorem Qk {P:Program} {w:World} (em:Bool) (d:Nat) {t e:TypeId} {k:IntKind} (ht:P.underlying t=some (.array 2 e)) (hS:∀ w,(sizeOf e).run P w=.ok 1 w) (hA:∀ w,(isAgg e).run P w=.ok false w) (he:P.underlying e=some (.int k)) (a0 a1:Int) :
  (Instr.checkKey em (d+2) t (.agg #[.int k a0,.int k a1])).run P w=.ok () w:=by
 have hp:∀ (c0 c1:Int) (i:Nat) (v:Value),[Value.int k c0,.int k c1][i]?=some v→∀ w,(part e #[.int k c0,.int k c1] i).run P w=.ok v w:=fun c0 c1 i v h w=>Gq hA bT
 have e0:=hp a0 a1 0 _ rfl;have e1:=hp a0 a1 1 _ rfl
 have c0:=fun w=>Jr (P:=P) (w:=w) em d he a0;have c1:=fun w=>Jr (P:=P) (w:=w) em d he a1
 rw [Instr.checkKey]
 simp only [Sem.run_bind,run_underlying ht,Result.andThen_ok,hS,Std.Legacy.Range.forIn_eq_forIn_range',Std.Legacy.Range.size]
 rw [show List.range' 0 ((2-0+1-1) / 1)=[0,1] from rfl]
 simp only [List.forIn_cons,List.forIn_nil,Sem.run_bind,Nat.zero_mul,Nat.one_mul,Nat.mul_one,e0,e1,c0,c1,Result.andThen_ok,hS,Sem.run_pure]
def cT (p:Nat×Nat):Value:=.agg #[.int .i64 (p.1:Int),.int .i64 (p.2:Int)]
theorem Ie.pair {P:Program} {t e:TypeId} (ht:P.underlying t=some (.array 2 e)) (hS:∀ w,(sizeOf e).run P w=.ok 1 w) (hA:∀ w,(isAgg e).run P w=.ok false w) (he:P.underlying e=some (.int .i64)):Ie P t cT:=by
 refine Ie.asked ht ?_ ?_ ?_ ?_
 ·rintro ⟨a,b⟩ ⟨c,d⟩ h
  simp only [cT,Value.agg.injEq] at h
  simp at h
  obtain ⟨h1,h2⟩:=h
  obtain rfl:a=c:=by omega
  obtain rfl:b=d:=by omega
  rfl
 ·rintro em ⟨a,b⟩ w
  exact Qk em 9998 ht hS hA he _ _
 ·rintro ⟨a,b⟩ ⟨c,d⟩;rfl
 ·rintro ⟨a,b⟩ ⟨c,d⟩ w
  show (Op.equalIn (9998+2) t _ _).run P w=_
  rw [cT,cT,Tx 9998 ht hS hA he]
  congr 1
  rw [Bool.eq_iff_iff];simp only [Bool.and_eq_true,decide_eq_true_eq,Prod.mk.injEq];omega
theorem rC {P:Program} {w:World} (d:Nat) {t e:TypeId} {k:IntKind} (ht:P.underlying t=some (.array 1 e)) (hS:∀ w,(sizeOf e).run P w=.ok 1 w) (hA:∀ w,(isAgg e).run P w=.ok false w) (he:P.underlying e=some (.int k)) (a0 b0:Int) :
  (Op.equalIn (d+2) t (.agg #[.int k a0]) (.agg #[.int k b0])).run P w=.ok (decide (a0=b0)) w:=by
 have hp:∀ (c0:Int) w,(part e #[Value.int k c0] 0).run P w=.ok (.int k c0) w:=fun c0 w=>Gq hA rfl
 have q0:=fun w=>Iw (P:=P) (w:=w) d he a0 b0
 have e0:=hp a0;have k0:=hp b0
 rw [Op.equalIn]
 simp only [Sem.run_bind,run_underlying ht,Result.andThen_ok,hS,Std.Legacy.Range.forIn_eq_forIn_range',Std.Legacy.Range.size]
 rw [show List.range' 0 ((1-0+1-1) / 1)=[0] from rfl]
 generalize decide (a0=b0)=r0 at *
 simp only [List.forIn_cons,List.forIn_nil,Sem.run_bind,Nat.zero_mul,e0,k0,q0,Result.andThen_ok]
 cases r0<;>simp only [Bool.not_true,Bool.not_false,Bool.false_eq_true,if_true,if_false,Sem.run_pure,Result.andThen_ok]
theorem lI {P:Program} {w:World} (em:Bool) (d:Nat) {t e:TypeId} {k:IntKind} (ht:P.underlying t=some (.array 1 e)) (hS:∀ w,(sizeOf e).run P w=.ok 1 w) (hA:∀ w,(isAgg e).run P w=.ok false w) (he:P.underlying e=some (.int k)) (a0:Int) :
  (Instr.checkKey em (d+2) t (.agg #[.int k a0])).run P w=.ok () w:=by
 have e0:∀ w,(part e #[Value.int k a0] 0).run P w=.ok (.int k a0) w:=fun w=>Gq hA rfl
 have c0:=fun w=>Jr (P:=P) (w:=w) em d he a0
 rw [Instr.checkKey]
 simp only [Sem.run_bind,run_underlying ht,Result.andThen_ok,hS,Std.Legacy.Range.forIn_eq_forIn_range',Std.Legacy.Range.size]
 rw [show List.range' 0 ((1-0+1-1) / 1)=[0] from rfl]
 simp only [List.forIn_cons,List.forIn_nil,Sem.run_bind,Nat.zero_mul,e0,c0,Result.andThen_ok,hS,Sem.run_pure]
section
variable {x:Cx} {W:World→Prop} {E:Env} {K:Value→Prop} {d:Option Tmp} {ty:TypeId} {pos:String} {aft:Array Edge} {g:Option (Nat×Bool)} {o q:Operand} {xt yt:TypeId}
theorem oA {e:TypeId} {a b:List Nat} (ht:x.P.underlying xt=some (.array 4 e)) (hS:∀ w,(sizeOf e).run x.P w=.ok 1 w) (hA:∀ w,(isAgg e).run x.P w=.ok false w) (he:x.P.underlying e=some (.int .u64)) (hg:x.P.eqGuardType x.P.depth xt=false)
  (h1:ev E o=some (.agg (a.map Af).toArray)) (h2:ev E q=some (.agg (b.map Af).toArray)) (hx:a.length=4) (hy:b.length=4) (hxw:∀ x∈a,x<W64) (hyw:∀ x∈b,x<W64) (kt:a=b→K (.bool true)) (kf:¬ a=b→K (.bool false)):Y x W ⟨d,.binOp .eql xt o q yt,ty,pos,aft,g⟩ E K :=
 De (v:=.bool (decide (a=b))) (fun f hf w _=>by
  have h':(binOp .eql xt (.agg (a.map Af).toArray) (.agg (b.map Af).toArray)).run x.P w=.ok (.bool (decide (a=b))) w:=by
   rw [run_eql_struct,Xy 9998 ht hS hA he hx hy hxw hyw];rfl
  simp only [execOp,hf.ev h1,hf.ev h2,Sem.run_bind,run_eqGuard_agg w _ _ _ _ _ _ hg,Result.andThen_ok,h',Sem.run_pure]) (by
  by_cases h:a=b
  ·simpa [h] using kt h
  ·simpa [h] using kf h)
end
theorem Ie.state {α:Type} [DecidableEq α] {P:Program} {t e ta u:TypeId} {f1 f2 f3:Field} {p q s:α→Nat} (hinj:∀ a b,p a=p b→q a=q b→s a=s b→a=b) (ht:P.underlying t=some (.struct #[f1,f2,f3])) (hst:P.stoodInHeld t=false)
  (n1 : f1.name ≠ "_") (n2 : f2.name ≠ "_") (n3 : f3.name ≠ "_") (t1 : f1.type = e) (t2 : f2.type = e) (t3 : f3.type = ta) (o1 : f1.offset = 0) (o2 : f2.offset = 1) (o3 : f3.offset = 2)
  (hA:∀ w,(isAgg e).run P w=.ok false w) (he:P.underlying e=some (.int .i64)) (hta:P.underlying ta=some (.array 1 u)) (hSa:∀ w,(sizeOf ta).run P w=.ok 1 w) (hAa:∀ w,(isAgg ta).run P w=.ok true w)
  (hSu:∀ w,(sizeOf u).run P w=.ok 1 w) (hAu:∀ w,(isAgg u).run P w=.ok false w) (hu:P.underlying u=some (.int .u64)):Ie P t fun a:α=>Value.agg #[.int .i64 (p a:Int),.int .i64 (q a:Int),.int .u64 (s a:Int)]:=by
 have hp0:∀ (a b c:Int) w,(part e #[Value.int .i64 a,.int .i64 b,.int .u64 c] 0).run P w=.ok (.int .i64 a) w:=fun a b c w=>Gq hA rfl
 have hp1:∀ (a b c:Int) w,(part e #[Value.int .i64 a,.int .i64 b,.int .u64 c] 1).run P w=.ok (.int .i64 b) w:=fun a b c w=>Gq hA rfl
 have hp2:∀ (a b c:Int) w,(part ta #[Value.int .i64 a,.int .i64 b,.int .u64 c] 2).run P w=.ok (.agg #[.int .u64 c]) w:=fun a b c w=>by
  simp only [part,Sem.run_bind,hAa,Result.andThen_ok,if_true,hSa,Sem.run_pure];rfl
 refine Ie.asked ht ?_ ?_ ?_ ?_
 ·intro a b h
  simp only [Value.agg.injEq] at h
  simp at h
  exact hinj a b Dz Dz Dz
 ·intro em a w
  show (Instr.checkKey em (9999+1) t _).run P w=_
  rw [Instr.checkKey]
  simp only [Sem.run_bind,run_underlying ht,Result.andThen_ok]
  rw [← Array.forIn_toList]
  simp only [List.forIn_cons,List.forIn_nil,Sem.run_bind,n1,n2,n3,t1,t2,t3,o1,o2,o3,hp0,hp1,hp2,Result.andThen_ok,Sem.run_pure,ne_eq,not_false_eq_true,if_true,Jr em 9998 he,lI em 9997 hta hSu hAu hu]
 ·intro a b;rfl
 ·intro a b w
  have hf:P.fieldsOf t=#[f1,f2,f3]:=by simp [Program.fieldsOf,ht]
  show (Op.equalIn (9999+1) t _ _).run P w=_
  rw [run_equalIn_struct w 9999 t _ _ (by rw [hf];exact ht) hst,hf]
  have hd:decide (a=b)=(decide ((p a:Int)=p b) && (decide ((q a:Int)=q b) && decide ((s a:Int)=s b))):=by
   rw [Bool.eq_iff_iff];simp only [Bool.and_eq_true,decide_eq_true_eq]
   exact ⟨fun h=>by subst h;simp,fun h=>hinj a b Dz Dz Dz⟩
  rw [hd]
  have q0:=fun w=>Iw (P:=P) (w:=w) 9998 he (p a) (p b)
  have q1:=fun w=>Iw (P:=P) (w:=w) 9998 he (q a) (q b)
  have q2:=fun w=>rC (P:=P) (w:=w) 9997 hta hSu hAu hu (s a) (s b)
  generalize decide ((p a:Int)=p b)=r0 at *
  generalize decide ((q a:Int)=q b)=r1 at *
  generalize decide ((s a:Int)=s b)=r2 at *
  simp only [Op.eqFields,n1,n2,n3,t1,t2,t3,o1,o2,o3,ne_eq,not_false_eq_true,if_true,Sem.run_bind,hp0,hp1,hp2,Result.andThen_ok,q0,q1,q2]
  cases r0<;>simp only [Bool.not_true,Bool.not_false,Bool.false_eq_true,if_true,if_false,Sem.run_pure,Result.andThen_ok,Bool.false_and,Bool.true_and,Sem.run_bind,hp0,hp1,hp2,q0,q1,q2,Sem.run_ite]
  cases r1<;>simp only [Bool.not_true,Bool.not_false,Bool.false_eq_true,if_true,if_false,Sem.run_pure,Result.andThen_ok,Bool.false_and,Bool.true_and,Sem.run_bind,hp0,hp1,hp2,q0,q1,q2,Sem.run_ite]
  cases r2<;>simp only [Bool.not_true,Bool.not_false,Bool.false_eq_true,if_true,if_false,Sem.run_pure,Result.andThen_ok]
section
variable {x:Cx} {ops:Array Oper} {pre:List Nat} {W:World→Prop} {Q:Exit→Env→World→Prop} {E:Env} {w:World}
end
theorem St.perm {c:Ctx} {G:Ghost} {H H':List Res} {w:World} (h:St c G H w) (hp:H.Perm H'):St c G H' w:=by
 refine ⟨h.os,h.tape,h.output,h.size,h.old,h.le,h.new,h.ghost,fun s hs=>h.hold s (hp.mem_iff.2 hs),fun s hs=>h.off s (hp.mem_iff.2 hs),?_,h.drn⟩
 exact (hp.pairwise_iff (fun {a b} hab k hk hk'=>hab k hk' hk)).1 h.apart
theorem Pz {x:Cx} {o:Oper} {Q:Exit→Env→World→Prop} {K:Value→World→Prop} {w:World} {D:List Deferred} {M:List (Nat×Value)} (L:List (Nat×Value)) (hs:Ja L M) (h:S x o Q K ⟨D,L⟩ w):S x o Q K ⟨D,M⟩ w :=
 fun a ha=>h a (ha.sub (E:=⟨D,M⟩) hs)
theorem A_sub {x:Cx} {ops:Array Oper} {pre:List Nat} {W:World→Prop} {Q:Exit→Env→World→Prop} {w:World} {fuel:Nat} {listed:Array Bool} {D:List Deferred} {M:List (Nat×Value)} (L:List (Nat×Value)) (hs:Ja L M) (h:A x ops pre W Q fuel listed ⟨D,L⟩ w):A x ops pre W Q fuel listed ⟨D,M⟩ w :=
 fun h1 h2 h3 h4 a ha=>h h1 h2 h3 h4 a (ha.sub (E:=⟨D,M⟩) hs)
def marks (n:Nat) (p:Nat→Bool):Array Bool:=((List.range n).map p).toArray
theorem Ye (n:Nat) (p:Nat→Bool):(marks n p).size=n:=by simp [marks]
theorem Kf {n:Nat} {p:Nat→Bool} {j:Nat} {b:Bool} (h:j<n):(marks n p).getD j b=p j:=by
 simp [marks,Array.getD_eq_getD_getElem?,h]
theorem cU (n i:Nat) (p:Nat→Bool):(marks n p).setIfInBounds i true=marks n fun j=>p j || Nat.beq j i:=by
 apply Array.ext
 ·simp [marks]
 ·intro j h1 h2
  rw [Ye] at h2
  rw [Array.getElem_setIfInBounds (by rw [Ye];exact h2)]
  simp only [marks,List.getElem_toArray,List.getElem_map,List.getElem_range]
  by_cases h:i=j
  ·subst h;simp
  ·rw [if_neg h,show Nat.beq j i=false from by
    cases hb:Nat.beq j i
    ·rfl
    ·exact absurd (Nat.eq_of_beq_eq_true hb).symm h]
   simp
theorem iA {n:Nat} {p q:Nat→Bool} (h:∀ j,j<n→p j=q j):marks n p=marks n q:=by
 unfold marks
 congr 1
 exact List.map_congr_left fun j hj=>h j (List.mem_range.1 hj)
theorem lJ (n:Nat):Array.replicate n false=marks n fun _=>false:=by
 apply Array.ext
 ·simp [marks]
 ·intro j h1 h2;simp [marks]
structure Jd where
 i:Nat
 t:Tmp
 R:Ghost→Value→Prop
 res:Value→List Res
def Ty (ops:Array Oper) (i:Nat):List Nat :=
 match ops[i]? with
 | none=>[]
 | some o=>(o.after.toList.filter fun e=>Region.binds .any e).map (·.on)
def Yi (l:List Nat) (i:Nat):Bool:=l.any fun j=>Nat.beq j i
theorem Kg {l:List Nat} {i:Nat}:Yi l i=true↔i∈l:=by
 unfold Yi
 rw [List.any_eq_true]
 constructor
 ·rintro ⟨j,hj,h⟩;rw [← Nat.eq_of_beq_eq_true h];exact hj
 ·intro h;exact ⟨i,h,Nat.beq_refl i⟩
def rD (ops:Array Oper):List Nat→List Nat→Bool
 | _,[]=>true
 | seen,i::l=>(Ty ops i).all (Yi seen) && (!Yi seen i && rD ops (i::seen) l)
def Ym:List Nat→List Nat→Bool
 | _,[]=>true
 | seen,i::l=>!Yi seen i && Ym (i::seen) l
def lK (ops:Array Oper) (idx ts base:List Nat):Bool :=
 rD ops [] idx && (Ym [] base && (Ym base ts && ((List.range ops.size).all fun j=>Yi idx j || idx.all fun i=>anc ops ops.size j i)))
theorem cV {ops:Array Oper} {p:Nat→Bool}:∀ (idx seen:List Nat),rD ops seen idx=true→(∀ i∈seen,p i=true)→(∃ i∈idx,p i=false)→∃ i∈idx,p i=false∧∀ d∈Ty ops i,p d=true
 | [],_,_,_,⟨_,h,_⟩=>by cases h
 | i::l,seen,ht,hs,⟨j,hj,hp⟩=>by
  simp only [rD,Bool.and_eq_true] at ht
  cases hi:p i with
  | false=>exact ⟨i,by simp,hi,fun d hd=>hs d (Kg.1 (List.all_eq_true.1 ht.1 d hd))⟩
  | true =>
   obtain ⟨k,hk,h⟩:=cV l (i::seen) ht.2.2 (fun k hk=>by
    rcases List.mem_cons.1 hk with rfl | hk
    ·exact hi
    ·exact hs k hk) ⟨j,by
     rcases List.mem_cons.1 hj with rfl | hj
     ·rw [hi] at hp;cases hp
     ·exact hj,hp⟩
   exact ⟨k,List.mem_cons_of_mem _ hk,h⟩
theorem Yo {ops:Array Oper}:∀ (idx seen:List Nat),rD ops seen idx=true→idx.Nodup∧∀ i∈idx,i∉seen
 | [],_,_=>⟨List.nodup_nil,fun _ h=>by cases h⟩
 | i::l,seen,ht=>by
  simp only [rD,Bool.and_eq_true,Bool.not_eq_true'] at ht
  obtain ⟨h1,h2⟩:=Yo l (i::seen) ht.2.2
  refine ⟨List.nodup_cons.2 ⟨fun h=>h2 i h Dr,h1⟩,fun j hj hs=>?_⟩
  rcases List.mem_cons.1 hj with rfl | hj
  ·rw [Kg.2 hs] at ht;cases ht.2.1
  ·exact h2 j hj (List.mem_cons_of_mem _ hs)
theorem Ob:∀ (ts seen:List Nat),Ym seen ts=true→ts.Nodup∧∀ i∈ts,i∉seen
 | [],_,_=>⟨List.nodup_nil,fun _ h=>by cases h⟩
 | i::l,seen,ht=>by
  simp only [Ym,Bool.and_eq_true,Bool.not_eq_true'] at ht
  obtain ⟨h1,h2⟩:=Ob l (i::seen) ht.2
  refine ⟨List.nodup_cons.2 ⟨fun h=>h2 i h Dr,h1⟩,fun j hj hs=>?_⟩
  rcases List.mem_cons.1 hj with rfl | hj
  ·rw [Kg.2 hs] at ht;cases ht.1
  ·exact h2 j hj (List.mem_cons_of_mem _ hs)
theorem Yr {t:Tmp} {v:Value} {M:List (Nat×Value)}:∀ {L:List (Nat×Value)},Ja L M→t∉L.map Prod.fst→Ja L ((t,v)::M)
 | [],_,_=>trivial
 | (k,u)::L,⟨h1,h2⟩,h=>by
  simp only [List.map_cons,List.mem_cons,not_or] at h
  refine ⟨?_,Yr h2 h.2⟩
  unfold Ge
  rw [show Nat.beq t k=false from by
   cases hb:Nat.beq t k
   ·rfl
   ·exact absurd (Nat.eq_of_beq_eq_true hb) h.1]
  exact h1
def Gc (cs:List Jd) (p:Nat→Bool) (vals:Nat→Value):List Res:=cs.flatMap fun k=>bif p k.i then k.res (vals k.i) else []
theorem Oc {p q:Nat→Bool} {vals ws:Nat→Value}:∀ {cs:List Jd},(∀ k∈cs,p k.i=q k.i∧vals k.i=ws k.i)→Gc cs p vals=Gc cs q ws
 | [],_=>rfl
 | k::cs,h=>by
  have h1:=h k Dr
  have h2:=Oc (cs:=cs) fun j hj=>h j (List.mem_cons_of_mem _ hj)
  unfold Gc at h2 ⊢
  rw [List.flatMap_cons,List.flatMap_cons,h2,h1.1,h1.2]
theorem cW {p:Nat→Bool} {vals:Nat→Value} {v:Value} {k:Jd}:∀ {cs:List Jd},(cs.map (·.i)).Nodup→k∈cs→p k.i=false →
  (k.res v++Gc cs p vals).Perm (Gc cs (fun j=>p j || Nat.beq j k.i) fun j=>if j=k.i then v else vals j)
 | [],_,h,_=>by cases h
 | c::cs,hn,h,hp=>by
  have beqF:∀ {a b:Nat},a≠b→Nat.beq a b=false:=fun {a b} hab=>by
   cases hb:Nat.beq a b
   ·rfl
   ·exact absurd (Nat.eq_of_beq_eq_true hb) hab
  rw [List.map_cons,List.nodup_cons] at hn
  rcases List.mem_cons.1 h with rfl | h
  ·have h2:Gc cs (fun j=>p j || Nat.beq j k.i) (fun j=>if j=k.i then v else vals j)=Gc cs p vals:=Oc fun j hj=>by
    have hne:j.i≠k.i:=fun e=>hn.1 (e▸List.mem_map_of_mem hj)
    exact ⟨by rw [beqF hne,Bool.or_false],by rw [if_neg hne]⟩
   have e1:Gc (k::cs) p vals=Gc cs p vals:=by unfold Gc;rw [List.flatMap_cons,hp];rfl
   have e2:Gc (k::cs) (fun j=>p j || Nat.beq j k.i) (fun j=>if j=k.i then v else vals j)=k.res v++Gc cs p vals:=by
    rw [← h2];unfold Gc;rw [List.flatMap_cons];simp only [show Nat.beq k.i k.i=true from Nat.beq_refl _,Bool.or_true,cond_true,if_true]
   rw [e1,e2]
  ·have hne:c.i≠k.i:=fun e=>hn.1 (e▸List.mem_map_of_mem h)
   have ih:=cW (v:=v) (vals:=vals) hn.2 h hp
   have e1:Gc (c::cs) p vals=(bif p c.i then c.res (vals c.i) else [])++Gc cs p vals:=by unfold Gc;rw [List.flatMap_cons]
   have e2:Gc (c::cs) (fun j=>p j || Nat.beq j k.i) (fun j=>if j=k.i then v else vals j)=(bif p c.i then c.res (vals c.i) else [])++Gc cs (fun j=>p j || Nat.beq j k.i) (fun j=>if j=k.i then v else vals j):=by
    unfold Gc;rw [List.flatMap_cons];simp only [beqF hne,Bool.or_false,if_neg hne]
   rw [e1,e2,← List.append_assoc]
   exact (List.perm_append_comm.append_right _).trans (by rw [List.append_assoc];exact ih.append_left _)
theorem iB {t u:Tmp} {v:Value} {L:List (Nat×Value)} (h:t≠u):Ge ((t,v)::L) u=Ge L u:=by
 rw [Ge,show Nat.beq t u=false from by
  cases hb:Nat.beq t u
  ·rfl
  ·exact absurd (Nat.eq_of_beq_eq_true hb) h,cond_false]
theorem iC {t:Tmp} {v:Value} {L:List (Nat×Value)}:Ge ((t,v)::L) t=some v:=by unfold Ge;rw [Nat.beq_refl];rfl
theorem oB:∀ {cs:List Jd},(cs.map (·.t)).Nodup→∀ {a b:Jd},a∈cs→b∈cs→a.t=b.t→a=b
 | [],_,_,_,h,_,_=>by cases h
 | c::cs,hn,a,b,ha,hb,e=>by
  rw [List.map_cons,List.nodup_cons] at hn
  have key:∀ {d:Jd},d∈cs→d.t≠c.t:=fun {d} hd he=>hn.1 (by rw [← he];exact List.mem_map_of_mem (f:=fun k:Jd=>k.t) hd)
  rcases List.mem_cons.1 ha with ha | ha<;>rcases List.mem_cons.1 hb with hb | hb
  ·rw [ha,hb]
  ·rw [ha] at e;exact absurd e.symm (key hb)
  ·rw [hb] at e;exact absurd e (key ha)
  ·exact oB hn.2 ha hb e
theorem oC:∀ {cs:List Jd},(cs.map (·.i)).Nodup→∀ {a b:Jd},a∈cs→b∈cs→a.i=b.i→a=b
 | [],_,_,_,h,_,_=>by cases h
 | c::cs,hn,a,b,ha,hb,e=>by
  rw [List.map_cons,List.nodup_cons] at hn
  have key:∀ {d:Jd},d∈cs→d.i≠c.i:=fun {d} hd he=>hn.1 (by rw [← he];exact List.mem_map_of_mem (f:=fun k:Jd=>k.i) hd)
  rcases List.mem_cons.1 ha with ha | ha<;>rcases List.mem_cons.1 hb with hb | hb
  ·rw [ha,hb]
  ·rw [ha] at e;exact absurd e.symm (key hb)
  ·rw [hb] at e;exact absurd e (key ha)
  ·exact oC hn.2 ha hb e
theorem uQ {p:Nat→Bool} {m:Nat} {k:Jd}:∀ {cs:List Jd},(cs.map (·.i)).Nodup→k∈cs→p k.i=false→(cs.filter fun k=>!p k.i).length=m+1→(cs.filter fun j=>!(p j.i || Nat.beq j.i k.i)).length=m:=by
 intro cs hn hk hp hm
 have key:∀ {cs:List Jd},(cs.map (·.i)).Nodup→k∈cs→(cs.filter fun j=>!(p j.i || Nat.beq j.i k.i)).length+1=(cs.filter fun k=>!p k.i).length:=fun {cs}=>by
  induction cs with
  | nil=>intro _ h;cases h
  | cons c cs ih =>
   intro hn h
   have beqF:∀ {a b:Nat},a≠b→Nat.beq a b=false:=fun {a b} hab=>by
    cases hb:Nat.beq a b
    ·rfl
    ·exact absurd (Nat.eq_of_beq_eq_true hb) hab
   rw [List.map_cons,List.nodup_cons] at hn
   rcases List.mem_cons.1 h with rfl | h
   ·have e:(cs.filter fun j=>!(p j.i || Nat.beq j.i k.i))=cs.filter fun k=>!p k.i:=List.filter_congr fun j hj=>by
     rw [beqF (fun e=>hn.1 (by rw [← e];exact List.mem_map_of_mem (f:=fun k:Jd=>k.i) hj)),Bool.or_false]
    rw [List.filter_cons_of_neg (by rw [show Nat.beq k.i k.i=true from Nat.beq_refl _,Bool.or_true];simp),List.filter_cons_of_pos (by rw [hp];rfl),e,List.length_cons]
   ·have ih:=ih hn.2 h
    have hb:Nat.beq c.i k.i=false:=beqF (fun e=>hn.1 (e▸List.mem_map_of_mem h))
    cases hc:p c.i
    ·rw [List.filter_cons_of_pos (by rw [hc,hb];rfl),List.filter_cons_of_pos (by rw [hc];rfl),List.length_cons,List.length_cons,ih]
    ·rw [List.filter_cons_of_neg (by rw [hc];simp),List.filter_cons_of_neg (by rw [hc];simp),ih]
 have:=key hn hk
 omega
def iD (x:Cx) (ops:Array Oper) (Q:Exit→Env→World→Prop) (c:Ctx) (Gs:Ghost) (H0:List Res) (D:List Deferred) (L0:List (Nat×Value)) (cs:List Jd) (k:Jd):Prop :=
 ∃ o,ops[k.i]?=some o∧o.dst=some k.t∧o.guard=none∧∀ (G:Ghost) (Hx:List Res) (L:List (Nat×Value)) (w:World),Gs.le G→St c G (H0++Hx) w→Ja L0 L →
  (∀ j∈cs,Yi (Ty ops k.i) j.i=true→∃ v,Ge L j.t=some v∧j.R G v) →
  S x o (np Q) (fun v w'=>∃ G',G.le G'∧k.R G' v∧St c G' (k.res v++(H0++Hx)) w') ⟨D,L⟩ w
theorem A_calm {x:Cx} {ops:Array Oper} {Q:Exit→Env→World→Prop} {c:Ctx} {D:List Deferred} {L0:List (Nat×Value)} {H0:List Res} {G:Ghost} {w:World} {fuel:Nat} (cs:List Jd)
  (hok:lK ops (cs.map (·.i)) (cs.map (·.t)) (L0.map Prod.fst)=true)
  (hmono:∀ k∈cs,∀ (G G':Ghost) (v:Value),G.le G'→k.R G v→k.R G' v)
  (hstep:∀ k∈cs,iD x ops Q c G H0 D L0 cs k) (hs:St c G H0 w)
  (hend:∀ (G':Ghost) (vals:Nat→Value) (L:List (Nat×Value)) (w':World),G.le G'→St c G' (H0++Gc cs (fun _=>true) vals) w'→Ja L0 L→(∀ k∈cs,Ge L k.t=some (vals k.i)∧k.R G' (vals k.i)) →
   A x ops [] (fun _=>True) Q fuel (marks ops.size fun j=>Yi (cs.map (·.i)) j) ⟨D,L⟩ w') :
  A x ops [] (fun _=>True) Q (fuel+cs.length) (Array.replicate ops.size false) ⟨D,L0⟩ w:=by
 simp only [lK,Bool.and_eq_true] at hok
 obtain ⟨hto,hbs,hfr,htl⟩:=hok
 obtain ⟨hni,_⟩:=Yo _ _ hto
 obtain ⟨hnt,hnb⟩:=Ob _ _ hfr
 suffices hmain:∀ (m:Nat) (p:Nat→Bool) (G1:Ghost) (vals:Nat→Value) (L:List (Nat×Value)) (w1:World),(cs.filter fun k=>!p k.i).length=m→(∀ j,p j=true→j∈cs.map (·.i))→G.le G1 →
   St c G1 (H0++Gc cs p vals) w1→Ja L0 L→(∀ k∈cs,p k.i=true→Ge L k.t=some (vals k.i)∧k.R G1 (vals k.i))→A x ops [] (fun _=>True) Q (fuel+m) (marks ops.size p) ⟨D,L⟩ w1 by
  rw [lJ]
  have hf:(cs.filter fun k=>!(fun _=>false:Nat→Bool) k.i)=cs:=by simp
  refine hmain cs.length (fun _=>false) G (fun _=>undef) L0 w (by rw [hf]) (fun j h=>by cases h) (gLr _) ?_ ?_ (fun k _ h=>by cases h)
  ·have:Gc cs (fun _=>false) (fun _=>undef)=[]:=by
    unfold Gc;rw [List.flatMap_eq_nil_iff];intro k _;rfl
   rw [this,List.append_nil];exact hs
  ·have:∀ M:List (Nat×Value),(M.map Prod.fst).Nodup→Ja M M:=fun M h=>by
    induction M with
    | nil=>trivial
    | cons a M ih =>
     rw [List.map_cons,List.nodup_cons] at h
     exact ⟨iC,Yr (ih h.2) h.1⟩
   exact this L0 (Ob _ _ hbs).1
 intro m
 induction m with
 | zero =>
  intro p G1 vals L w1 hm hp hG hs1 hL hv
  have hall:∀ k∈cs,p k.i=true:=fun k hk=>by
   cases h:p k.i
   ·have:k∈cs.filter fun k=>!p k.i:=List.mem_filter.2 ⟨hk,by rw [h];rfl⟩
    rw [List.length_eq_zero_iff.1 hm] at this;cases this
   ·rfl
  have e1:marks ops.size p=marks ops.size fun j=>Yi (cs.map (·.i)) j:=iA fun j _=>by
   cases h:p j
   ·cases h2:Yi (cs.map (·.i)) j
    ·rfl
    ·obtain ⟨k,hk,rfl⟩:=List.mem_map.1 (Kg.1 h2)
     rw [hall k hk] at h;cases h
   ·exact (Kg.2 (hp j h)).symm
  rw [e1]
  refine hend G1 vals L w1 hG ?_ hL fun k hk=>hv k hk (hall k hk)
  rw [Oc (q:=p) (ws:=vals) fun k hk=>⟨(hall k hk).symm,rfl⟩];exact hs1
 | succ m ih =>
  intro p G1 vals L w1 hm hp hG hs1 hL hv h1 h2 h3 h4 a ha
  obtain ⟨k0,hk0⟩:∃ k,k∈cs.filter fun k=>!p k.i:=List.exists_mem_of_length_pos Dz
  obtain ⟨hk0,hk0p⟩:=List.mem_filter.1 hk0
  simp only [Bool.not_eq_true'] at hk0p
  have depsL:∀ {i:Nat} {o:Oper},ops[i]?=some o→∀ e∈o.after,Region.binds .any e=true→e.on∈Ty ops i:=fun {i o} ho e he hb=>by
   unfold Ty;rw [ho];exact List.mem_map.2 ⟨e,List.mem_filter.2 ⟨by simpa using he,hb⟩,rfl⟩
  have szlt:∀ {i:Nat} {o:Oper},ops[i]?=some o→i<ops.size:=fun h=>(Array.getElem?_eq_some_iff.1 h).1
  refine ⟨fun h0=>?_,fun i hi=>?_⟩
  ·obtain ⟨i,hi,hpi,hd⟩:=cV _ _ hto (fun _ h=>by cases h) ⟨k0.i,List.mem_map_of_mem hk0,hk0p⟩
   obtain ⟨k,hk,rfl⟩:=List.mem_map.1 hi
   obtain ⟨o,ho,_⟩:=hstep k hk
   have:k.i∈Region.ready .any ops (marks ops.size p):=mem_ready.2 ⟨by rw [Kf (szlt ho)];exact hpi,o,ho,fun e he hb=>by
    have h5:=hd _ (depsL ho e he hb)
    obtain ⟨k',hk',he'⟩:=List.mem_map.1 (hp _ h5)
    obtain ⟨o',ho',_⟩:=hstep k' hk'
    rw [Kf (by rw [← he'];exact szlt ho')];exact h5⟩
   rw [h0] at this;cases this
  ·have hi':=hi
   obtain ⟨hun,o,ho,hall⟩:=mem_ready.1 hi
   have hsz:=szlt ho
   rw [Kf hsz] at hun
   have hin:i∈cs.map (·.i):=by
    have h5:=List.all_eq_true.1 htl i (List.mem_range.2 hsz)
    rw [Bool.or_eq_true] at h5
    rcases h5 with h5 | h5
    ·exact Kg.1 h5
    ·have h6:=Qg h4 _ i o ho hall (List.all_eq_true.1 h5 k0.i (List.mem_map_of_mem hk0))
     obtain ⟨o0,ho0,_⟩:=hstep k0 hk0
     rw [Kf (szlt ho0),hk0p] at h6;cases h6
   obtain ⟨k,hk,rfl⟩:=List.mem_map.1 hin
   obtain ⟨o',ho',hdst,hgu,hst⟩:=hstep k hk
   rw [ho] at ho';injection ho' with ho';subst ho'
   have hS:=hst G1 (Gc cs p vals) L w1 hG hs1 hL fun j hj hd=>by
    have hon:=Kg.1 hd
    unfold Ty at hon;rw [ho] at hon
    obtain ⟨e,he,hej⟩:=List.mem_map.1 hon
    obtain ⟨he,hb⟩:=List.mem_filter.1 he
    have h5:=hall e (by simpa using he) hb
    obtain ⟨oj,hoj,_⟩:=hstep j hj
    rw [hej,Kf (szlt hoj)] at h5
    exact ⟨_,hv j hj h5⟩
   unfold wpOpIn
   have hgd:gd ops o ⟨D,L⟩=some true:=by unfold gd;rw [hgu]
   simp only [ho,Rh hgd ha,if_true]
   refine hS a ha _ fun v w' ⟨G',hGG,hR,hs'⟩=>⟨fun _=>trivial,?_⟩
   have hx:A x ops [] (fun _=>True) Q (fuel+m) (marks ops.size fun j=>p j || Nat.beq j k.i) ⟨D,(k.t,v)::L⟩ w':=by
    refine ih (fun j=>p j || Nat.beq j k.i) G' (fun j=>if j=k.i then v else vals j) ((k.t,v)::L) w' ?_ ?_ (hG.trans hGG) ?_ ?_ ?_
    ·exact uQ hni hk hun hm
    ·intro j hj
     rw [Bool.or_eq_true] at hj
     rcases hj with hj | hj
     ·exact hp j hj
     ·rw [Nat.eq_of_beq_eq_true hj];exact hin
    ·refine hs'.perm ?_
     rw [← List.append_assoc]
     exact (List.perm_append_comm.append_right _).trans (by rw [List.append_assoc];exact (cW hni hk hun).append_left _)
    ·exact Yr hL (hnb k.t (List.mem_map_of_mem hk))
    ·intro j hj hpj
     by_cases hji:j.i=k.i
     ·obtain rfl:=oC hni hj hk hji
      rw [if_pos rfl]
      exact ⟨iC,hR⟩
     ·rw [if_neg hji]
      rw [Bool.or_eq_true] at hpj
      rcases hpj with hpj | hpj
      ·have:=hv j hj hpj
       exact ⟨by rw [iB (fun e=>hji (congrArg Jd.i (oB hnt hk hj e)).symm)];exact this.1,hmono j hj _ _ _ hGG this.2⟩
      ·exact absurd (Nat.eq_of_beq_eq_true hpj) hji
   rw [cU]
   have hd4:=h4.ready hi'
   rw [cU] at hd4
   have ha':=ha.put (some k.t) v (fun d hd=>Xc h1 ho d (by rw [hdst];exact hd))
   rw [hdst]
   exact hx h1 h2 h3 hd4 _ ha'
def rE (P:Jd→Prop):List Jd→Prop
 | []=>True
 | k::l=>P k∧rE P l
theorem rE.mem {P:Jd→Prop}:∀ {l:List Jd},rE P l→∀ k∈l,P k
 | [],_,_,h=>by cases h
 | a::l,⟨h1,h2⟩,k,h=>by
  rcases List.mem_cons.1 h with rfl | h
  ·exact h1
  ·exact rE.mem h2 k h
def lL (e:TypeId) (cs:List Value):Value→List Res
 | .pointer (some ⟨b,0,none⟩)=>[.blk b e cs]
 | _=>[]
def rowRes (e k n:Nat) (xs:List Value) (v:Value):List Res:=[.row e k v n xs]
def oD (_:Ghost) (v:Value):Prop:=∃ b,v=.pointer (some ⟨b,0,none⟩)
def Rs (_:Value):List Res:=[]
theorem T_calm {x:Cx} {Q:Exit→Env→World→Prop} {c:Ctx} {D:List Deferred} {M:List (Nat×Value)} {H0:List Res} {G:Ghost} {w:World} {id:Nat} {l:List Oper} (fuel:Nat) (cs:List Jd) (L0:List (Nat×Value))
  (hs:St c G H0 w) (hsub:Ja L0 M) (hf:l.length=fuel+cs.length) (hm:eF x.P x.N l.toArray=true)
  (hok:lK l.toArray (cs.map (·.i)) (cs.map (·.t)) (L0.map Prod.fst)=true)
  (hmono:∀ k∈cs,∀ (G G':Ghost) (v:Value),G.le G'→k.R G v→k.R G' v)
  (hstep:∀ k∈cs,iD x l.toArray Q c G H0 D L0 cs k)
  (hend:∀ (G':Ghost) (vals:Nat→Value) (L:List (Nat×Value)) (w':World),G.le G'→St c G' (H0++Gc cs (fun _=>true) vals) w'→Ja L0 L→(∀ k∈cs,Ge L k.t=some (vals k.i)∧k.R G' (vals k.i)) →
   A x l.toArray [] (fun _=>True) Q fuel (marks l.length fun j=>Yi (cs.map (·.i)) j) ⟨D,L⟩ w'):T x (.region id l.toArray true) Q ⟨D,M⟩ w:=by
 refine Xb L0 hsub (uD [] (fun _=>True) hm ?_)
 have h:=A_calm (fuel:=fuel) cs hok hmono hstep hs.drew (by simpa using hend)
 rw [← hf] at h
 simpa using h
theorem iE (a b:Nat):Px .andNot .u64 (a:Int) (b:Int)=((Ei a (Mw 18446744073709551615 b):Nat):Int):=by
 show IntKind.u64.wrap ((BitVec.ofInt 64 (a:Int) &&& ~~~BitVec.ofInt 64 (b:Int)).toNat:Int)=_
 rw [BitVec.toNat_and,BitVec.not_def,BitVec.toNat_xor,BitVec.toNat_allOnes,Ir,Ir,Ma]
 have h:a % W64 &&& (2 ^ 64-1 ^^^ b % W64)=Ei a (Mw 18446744073709551615 b):=by
  show _=a % W64 &&& Mw 18446744073709551615 b % W64
  rw [Nat.mod_eq_of_lt (Xw _ b)];rfl
 rw [h,Nat.mod_eq_of_lt (Nv _ _)]
section
variable {x:Cx} {W:World→Prop} {E:Env} {K:Value→Prop} {d:Option Tmp} {ty:TypeId} {pos:String} {aft:Array Edge} {g:Option (Nat×Bool)} {xt yt:TypeId} {o p:Operand} {a b:Nat}
theorem lM (h1:ev E o=some (Af a)) (h2:ev E p=some (Af b)) (k:K (Af (Ei a (Mw 18446744073709551615 b)))):Y x W ⟨d,.binOp .andNot xt o p yt,ty,pos,aft,g⟩ E K:=Xi h1 h2 Dr (iE a b) k
theorem iF {t e:TypeId} {n k:Nat} {kd:IntKind} {j:Int} {vs ws:List Value} (i:Nat) (hu:x.P.underlying t=some (.array n e)) (hA:∀ w,(isAgg e).run x.P w=.ok true w) (hS:∀ w,(sizeOf e).run x.P w=.ok k w)
  (h1:ev E o=some (.agg vs.toArray)) (h2:ev E p=some (.int kd j)) (hj:j=(i:Int)) (hlt:i<n) (hv:(vs.drop (i*k)).take k=ws) (kk:K (.agg ws.toArray)):Y x W ⟨d,.index t o p,ty,pos,aft,g⟩ E K:=by
 subst hj hv
 refine De (v:=.agg ((vs.drop (i*k)).take k).toArray) (fun f hf w _=>?_) kk
 simp [execOp,hf.ev h1,hf.ev h2,Instr.index,asIntOf,run_underlying hu,hS w,hlt,part,hA w]
end
theorem Ve {P:Program} {w:World} (dd:Nat) {t e:TypeId} {n:Nat} (ht:P.underlying t=some (.array n e)) (hS:∀ w,(sizeOf e).run P w=.ok 1 w) (hA:∀ w,(isAgg e).run P w=.ok false w) {xs ys:List Value} {b:Nat→Bool}
  (hx:xs.length=n) (hy:ys.length=n) (h:∀ i u v,xs[i]?=some u→ys[i]?=some v→∀ w,(Op.equalIn dd e u v).run P w=.ok (b i) w) :
  (Op.equalIn (dd+1) t (.agg xs.toArray) (.agg ys.toArray)).run P w=.ok ((List.range n).all b) w:=by
 rw [Op.equalIn]
 simp only [Sem.run_bind,run_underlying ht,Result.andThen_ok,hS,Std.Legacy.Range.forIn_eq_forIn_range',Std.Legacy.Range.size]
 rw [show (n-0+1-1) / 1=n from by omega,List.range_eq_range']
 have key:∀ (k s:Nat),s+k=n→(forIn (List.range' s k) (none,()) fun i (_:Option Bool×Unit)=>do
      let a ← part e xs.toArray (i*1)
      let c ← part e ys.toArray (i*1)
      let r ← Op.equalIn dd e a c
      if (!r)=true then pure (ForInStep.done (some false,())) else pure (ForInStep.yield (none,())):Sem (Option Bool×Unit)).run P w=.ok (if (List.range' s k).all b=true then none else some false,()) w:=fun k=>by
  induction k with
  | zero=>intro s hs;rfl
  | succ k ih =>
   intro s hs
   have hsx:xs[s]?=some (xs[s]'Dz):=List.getElem?_eq_getElem Dz
   have hsy:ys[s]?=some (ys[s]'Dz):=List.getElem?_eq_getElem Dz
   have e1:(part e xs.toArray (s*1)).run P w=.ok (xs[s]'Dz) w:=Gq hA (by rw [Nat.mul_one];simp)
   have e2:(part e ys.toArray (s*1)).run P w=.ok (ys[s]'Dz) w:=Gq hA (by rw [Nat.mul_one];simp)
   rw [List.range'_succ,List.forIn_cons]
   simp only [Sem.run_bind,e1,e2,h s _ _ hsx hsy w,Result.andThen_ok]
   cases hb:b s with
   | false=>simp [hb]
   | true =>
    have:=ih (s+1) Dz
    simp only [Bool.not_true,Bool.false_eq_true,if_false,Sem.run_pure,Result.andThen_ok,List.all_cons,hb,Bool.true_and]
    exact this
 rw [key n 0 Dz]
 cases (List.range' 0 n).all b<;>simp
theorem bV {P:Program} {w:World} (dd:Nat) {t e:TypeId} {n:Nat} (ht:P.underlying t=some (.array n e)) (hS:∀ w,(sizeOf e).run P w=.ok 1 w) (hA:∀ w,(isAgg e).run P w=.ok false w) (he:P.underlying e=some .bool) {xs ys:List Bool}
  (hx:xs.length=n) (hy:ys.length=n):(Op.equalIn (dd+2) t (.agg (xs.map Value.bool).toArray) (.agg (ys.map Value.bool).toArray)).run P w=.ok (decide (xs=ys)) w:=by
 rw [Ve (b:=fun i=>xs.getD i false == ys.getD i false) (dd+1) ht hS hA (by simpa using hx) (by simpa using hy) (fun i u v hu hv w=>by
  rw [List.getElem?_map] at hu hv
  obtain ⟨a,ha,rfl⟩:=Option.map_eq_some_iff.1 hu
  obtain ⟨c,hc,rfl⟩:=Option.map_eq_some_iff.1 hv
  rw [run_equalIn_bool' w dd e a c he]
  simp [List.getD_eq_getElem?_getD,ha,hc])]
 congr 1
 rw [Bool.eq_iff_iff,List.all_eq_true,decide_eq_true_iff]
 constructor
 ·intro h
  apply List.ext_getElem Dz
  intro i h1 h2
  have:=h i (List.mem_range.2 Dz)
  simpa [List.getD_eq_getElem?_getD,List.getElem?_eq_getElem h1,List.getElem?_eq_getElem h2] using this
 ·rintro rfl i _;simp
theorem eI {P:Program} {w:World} (dd:Nat) {t e:TypeId} {n:Nat} (ht:P.underlying t=some (.array n e)) (hS:∀ w,(sizeOf e).run P w=.ok 1 w) (hA:∀ w,(isAgg e).run P w=.ok false w) (he:P.underlying e=some (.int .i64)) {xs ys:List Int}
  (hx:xs.length=n) (hy:ys.length=n):(Op.equalIn (dd+2) t (.agg (xs.map (Value.int .i64)).toArray) (.agg (ys.map (Value.int .i64)).toArray)).run P w=.ok (decide (xs=ys)) w:=by
 rw [Ve (b:=fun i=>xs.getD i 0 == ys.getD i 0) (dd+1) ht hS hA (by simpa using hx) (by simpa using hy) (fun i u v hu hv w=>by
  rw [List.getElem?_map] at hu hv
  obtain ⟨a,ha,rfl⟩:=Option.map_eq_some_iff.1 hu
  obtain ⟨c,hc,rfl⟩:=Option.map_eq_some_iff.1 hv
  rw [run_equalIn_int w dd e _ _ _ _ he]
  simp [List.getD_eq_getElem?_getD,ha,hc])]
 congr 1
 rw [Bool.eq_iff_iff,List.all_eq_true,decide_eq_true_iff]
 constructor
 ·intro h
  apply List.ext_getElem Dz
  intro i h1 h2
  have:=h i (List.mem_range.2 Dz)
  simpa [List.getD_eq_getElem?_getD,List.getElem?_eq_getElem h1,List.getElem?_eq_getElem h2] using this
 ·rintro rfl i _;simp
section
variable {x:Cx} {W:World→Prop} {E:Env} {K:Value→Prop} {d:Option Tmp} {ty:TypeId} {pos:String} {aft:Array Edge} {g:Option (Nat×Bool)} {xt yt:TypeId} {o q:Operand}
theorem Ql {e:TypeId} {n:Nat} {a b:List Bool} (ht:x.P.underlying xt=some (.array n e)) (hS:∀ w,(sizeOf e).run x.P w=.ok 1 w) (hA:∀ w,(isAgg e).run x.P w=.ok false w) (he:x.P.underlying e=some .bool) (hg:x.P.eqGuardType x.P.depth xt=false)
  (h1:ev E o=some (.agg (a.map Value.bool).toArray)) (h2:ev E q=some (.agg (b.map Value.bool).toArray)) (hx:a.length=n) (hy:b.length=n) (kt:¬ a=b→K (.bool true)) (kf:a=b→K (.bool false)):Y x W ⟨d,.binOp .neq xt o q yt,ty,pos,aft,g⟩ E K :=
 De (v:=.bool (!decide (a=b))) (fun f hf w _=>by
  have h':(binOp .neq xt (.agg (a.map Value.bool).toArray) (.agg (b.map Value.bool).toArray)).run x.P w=.ok (.bool (!decide (a=b))) w:=by
   rw [run_neq_struct,bV 9998 ht hS hA he hx hy];rfl
  simp only [execOp,hf.ev h1,hf.ev h2,Sem.run_bind,run_eqGuard_agg w _ _ _ _ _ _ hg,Result.andThen_ok,h',Sem.run_pure]) (by
  by_cases h:a=b
  ·simpa [h] using kf h
  ·simpa [h] using kt h)
theorem rG {e:TypeId} {n:Nat} {a b:List Int} (ht:x.P.underlying xt=some (.array n e)) (hS:∀ w,(sizeOf e).run x.P w=.ok 1 w) (hA:∀ w,(isAgg e).run x.P w=.ok false w) (he:x.P.underlying e=some (.int .i64)) (hg:x.P.eqGuardType x.P.depth xt=false)
  (h1:ev E o=some (.agg (a.map (Value.int .i64)).toArray)) (h2:ev E q=some (.agg (b.map (Value.int .i64)).toArray)) (hx:a.length=n) (hy:b.length=n) (kt:¬ a=b→K (.bool true)) (kf:a=b→K (.bool false)):Y x W ⟨d,.binOp .neq xt o q yt,ty,pos,aft,g⟩ E K :=
 De (v:=.bool (!decide (a=b))) (fun f hf w _=>by
  have h':(binOp .neq xt (.agg (a.map (Value.int .i64)).toArray) (.agg (b.map (Value.int .i64)).toArray)).run x.P w=.ok (.bool (!decide (a=b))) w:=by
   rw [run_neq_struct,eI 9998 ht hS hA he hx hy];rfl
  simp only [execOp,hf.ev h1,hf.ev h2,Sem.run_bind,run_eqGuard_agg w _ _ _ _ _ _ hg,Result.andThen_ok,h',Sem.run_pure]) (by
  by_cases h:a=b
  ·simpa [h] using kf h
  ·simpa [h] using kt h)
end
structure Nl (cur:Array Value) (o n cap:Nat) (xs:List Value):Prop where
 size:o+cap≤cur.size
 le:n≤cap
 max:cap≤maxLen
 len:xs.length=n
 get:∀ i u,xs[i]?=some u→cur[o+i]?=some u
theorem St.toQue {c:Ctx} {G:Ghost} {H:List Res} {w:World} {e n:Nat} {v:Value} {xs:List Value} (hs:St c G (.row e 1 v n xs::H) w) (hn:0<n) :
  ∃ b cur cap,v=.slice (some ⟨b,0,none⟩) n cap∧Nl cur 0 n cap xs∧St c G (.obj b (.cells cur e (0,0))::H) w:=by
 have hown:w.ownsRow 0 e 1 v n xs:=hs.hold (.row e 1 v n xs) Dr
 rcases hown.2 with ⟨_,h0⟩ | ⟨b,cap,cur,rfl,_,hh,hnc,hcm,hsz,htk⟩
 ·omega
 ·rw [Nat.mul_one] at hsz htk
  refine ⟨b,cur,cap,rfl,⟨by omega,hnc,hcm,by have:=hown.1;omega,fun i u hu=>?_⟩,hs.write rfl rfl rfl (Nat.le_refl _) (fun _ _ _=>rfl) hh (fun k hk=>.inl Z23)⟩
  have hi:i<n:=by
   have:=(List.getElem?_eq_some_iff.1 hu).1
   have:=hown.1;omega
  rw [← htk,List.getElem?_take_of_lt hi] at hu
  simpa using hu
theorem Nl.tail {cur:Array Value} {o n cap:Nat} {x:Value} {xs:List Value} (h:Nl cur o n cap (x::xs)):Nl cur (if cap=1 then o else o+1) (n-1) (cap-1) xs:=by
 have hl:=h.len
 rw [List.length_cons] at hl
 refine ⟨?_,by have:=h.le;omega,by have:=h.max;omega,by omega,fun i u hu=>?_⟩
 ·have:=h.size;have:=h.le;split<;>omega
 ·have h1:=h.get (i+1) u (by simpa using hu)
  have h2:=(List.getElem?_eq_some_iff.1 hu).1
  rw [if_neg (by have:=h.le;omega),Nat.add_assoc,Nat.add_comm 1 i];exact h1
section
variable {x:Cx} {W:World→Prop} {E:Env} {K:Value→Prop} {d:Option Tmp} {ty:TypeId} {pos:String} {aft:Array Edge} {g:Option (Nat×Bool)} {o' q:Operand} {c:Ctx} {G:Ghost} {H:List Res}
theorem uR {t e:TypeId} {b o n cap:Nat} {kd:IntKind} {j:Int} (i:Nat) (hu:x.P.underlying t=some (.slice e)) (hs:∀ w,(sizeOf e).run x.P w=.ok 1 w) (h1:ev E o'=some (.slice (some ⟨b,o,none⟩) n cap)) (h2:ev E q=some (.int kd j)) (hj:j=(i:Int)) (hi:i<n)
  (k:K (.pointer (some ⟨b,o+i,none⟩))):Y x W ⟨d,.indexAddr t o' q,ty,pos,aft,g⟩ E K:=by
 subst hj
 refine De (v:=.pointer (some ⟨b,o+i,none⟩)) (fun f hf w _=>?_) k
 simp [execOp,hf.ev h1,hf.ev h2,Instr.indexAt,asIntOf,run_underlying hu,hs w,hi,Addr.add_lit]
theorem Y_queLd {t b j e:Nat} {cur:Array Value} {v:Value} (h:Nat) (hi:H[h]?=some (.obj b (.cells cur e (0,0)))) (hA:∀ w,(isAgg t).run x.P w=.ok false w) (ho:ev E o'=some (.pointer (some ⟨b,j,none⟩))) (hv:cur[j]?=some v) (k:K v):Y x (St c G H) ⟨d,.load t o',ty,pos,aft,g⟩ E K :=
 De (v:=v) (fun a ha w hw=>by
  have hh:w.heap[b]?=some (.cells cur e (0,0)):=hw.hold _ (List.mem_of_getElem? hi)
  have hc:w.cell? ⟨b,j,none⟩=some v:=by simp [World.cell?,hh,hv]
  simp [execOp,ha.ev ho,Instr.loadAt,Instr.sureAddr,loadVar,hA w,hc]) k
theorem rH {t e:TypeId} {b o n cap:Nat} {kd:IntKind} {j:Int} (hu:x.P.underlying t=some (.slice e)) (hs:∀ w,(sizeOf e).run x.P w=.ok 1 w) (h1:ev E o'=some (.slice (some ⟨b,o,none⟩) n cap)) (h2:ev E q=some (.int kd j)) (hj:j=1) (hn:0<n) (hc:n≤cap)
  (k:K (.slice (some ⟨b,if cap=1 then o else o+1,none⟩) (n-1) (cap-1))):Y x W ⟨d,.slice t o' (some q) none none,ty,pos,aft,g⟩ E K:=by
 subst hj
 refine De (v:=.slice (some ⟨b,if cap=1 then o else o+1,none⟩) (n-1) (cap-1)) (fun f hf w _=>?_) k
 have h3:(1:Int)≤(n:Int):=by omega
 by_cases hc1:cap=1
 ·simp [execOp,hf.ev h1,hf.ev h2,Instr.sliceAt,Instr.slice,Instr.sliceBounds,Instr.sliceBound,asIntOf,run_underlying hu,hs w,h3,hc1]
 ·simp [execOp,hf.ev h1,hf.ev h2,Instr.sliceAt,Instr.slice,Instr.sliceBounds,Instr.sliceBound,asIntOf,run_underlying hu,hs w,h3,hc1,Addr.add_lit]
end
section
variable {x:Cx} {Q:Exit→Env→World→Prop} {E:Env} {K:Value→World→Prop} {w:World} {d:Option Tmp} {ty:TypeId} {pos:String} {aft:Array Edge} {g:Option (Nat×Bool)} {c:Ctx} {G:Ghost} {H:List Res}
theorem uS {o' p:Operand} {t e:TypeId} {z u y:Value} {bytes b o n cap:Nat} {cur:Array Value} {xs:List Value} (hs:St c G (.obj b (.cells cur e (0,0))::H) w) (hq:Nl cur o n cap xs) (ht:x.P.underlying t=some (.slice e)) (hi:TI x.P e z 1 bytes) (hzk:z.cells.size=1)
  (ho:ev E o'=some (.slice (some ⟨b,o,none⟩) n cap)) (hp:ev E p=some u) (hu:Sl G u 1 1 [y]) (h1:y.oneCell'=true) (hb:(n+1)*bytes≤140737488355328) (hm:n+1≤140737488355328)
  (kk:∀ cur' w',Nl cur' o (n+1) cap (xs++[y])→Nl cur' o n cap xs→(∀ i,i<o+n→cur'[i]?=cur[i]?)→cur'.size=cur.size→St c G (.obj b (.cells cur' e (0,0))::H) w'→K (.slice (some ⟨b,o,none⟩) (n+1) cap) w')
  (kn:∀ b' cap' cur' w',Nl cur' 0 (n+1) cap' (xs++[y])→St c G (.obj b' (.cells cur' e (0,0))::.obj b (.cells cur e (0,0))::H) w'→K (.slice (some ⟨b',0,none⟩) (n+1) cap') w'):S x ⟨d,.call { callee:=.builtin .append,args:=#[o',p],argTypes:=#[t,t] },ty,pos,aft,g⟩ Q K E w:=by
 obtain ⟨i,hi,hz,hik,hib⟩:=hi
 obtain ⟨A,cp,rfl,hl,hmc,hcm,hA⟩:=hu
 obtain ⟨a,rfl,hc⟩:=hA (by decide)
 have hh:w.heap[b]?=some (.cells cur e (0,0)):=hs.hold (.obj b _) Dr
 have hnews:∀ j v,[y][j]?=some v→w.cell? (a.add j)=some v:=fun j v hv=>hs.cell (hc j v hv)
 have hone:∀ v∈[y],v.oneCell'=true:=fun v hv=>by rw [List.mem_singleton.1 hv];exact h1
 have hsz:=hq.size;have hle:=hq.le;have hmx:=hq.max;have hln:=hq.len
 by_cases hroom:n+1≤cap
 ·have hf:=run_firstCells_some (P:=x.P) w i.size 1 a 1 cp [y] (by rw [hik];rfl) hnews
  have hst:=run_storeCells_at x.P b (o+n) e [y] 0 cur w hh Nj hone
  simp only [Nat.add_zero] at hst
  obtain ⟨cur',hcur'⟩:∃ q,q=(cur.toList.take (o+n)++[y]++cur.toList.drop (o+n+[y].length)).toArray:=⟨_,rfl⟩
  rw [← hcur'] at hst
  have hr:(Builtin.append_ #[t,t] ty #[.slice (some ⟨b,o,none⟩) n cap,.slice (some a) 1 cp]).run x.P w=.ok (.slice (some ⟨b,o,none⟩) (n+1) cap) (w.setRow b cur'):=by
   simp only [hik,Nat.one_mul] at hf
   simp [Builtin.append_,run_underlying ht,sizeOf,typeInfo,hi,Builtin.lenOf,hroom,hf,hik,Addr.add_lit,hst]
  have hlt:(cur.toList.take (o+n)).length=o+n:=by rw [List.length_take,Array.length_toList];omega
  have g1:∀ j,j<o+n→cur'[j]?=cur[j]?:=fun j hj=>by
   rw [hcur',List.append_assoc]
   simp only [List.getElem?_toArray]
   rw [List.getElem?_append_left Dz,List.getElem?_take_of_lt hj,Array.getElem?_toList]
  have g2:cur'[o+n]?=some y:=by
   rw [hcur',List.append_assoc]
   simp only [List.getElem?_toArray]
   rw [List.getElem?_append_right Dz,hlt,Nat.sub_self];rfl
  have g3:cur'.size=cur.size:=by
   rw [hcur'];simp;omega
  have q1:Nl cur' o n cap xs:=⟨by omega,hle,hmx,hln,fun j v hv=>by
   have hj:=(List.getElem?_eq_some_iff.1 hv).1
   rw [g1 _ Dz];exact hq.get j v hv⟩
  have q2:Nl cur' o (n+1) cap (xs++[y]):=⟨by omega,hroom,hmx,by simp [hln],fun j v hv=>by
   rcases Nat.lt_or_ge j n with hj | hj
   ·rw [List.getElem?_append_left Dz] at hv;exact q1.get j v hv
   ·rw [List.getElem?_append_right Dz] at hv
    have hj0:j-xs.length=0:=by
     have:=(List.getElem?_eq_some_iff.1 hv).1
     simp at this;omega
    rw [hj0] at hv
    have:y=v:=by simpa using hv
    rw [show j=n by omega,← this];exact g2⟩
  refine Jm rfl fun f hf'=>⟨_,w.setRow b cur',?_,kk cur' _ q2 q1 g1 g3 (hs.write (w':=w.setRow b cur') rfl rfl rfl Dr (fun k _ hk=>setRow_other w b k _ hk) (setRow_heap w b cur _ e _ hh) (fun k hk=>.inl hk))⟩
  simp [execOp,resolve,invoke,builtin,hf'.ev ho,hf'.ev hp,hr]
 ·have holds:∀ j v,xs[j]?=some v→w.cell? ((⟨b,o,none⟩:Addr).add j)=some v:=fun j v hv=>by
   rw [Addr.add_lit];simp [World.cell?,hh,hq.get j v hv]
  have hr:=run_append_grow (P:=x.P) w t ty e i z ht hi hz ⟨b,o,none⟩ n cap xs (by rw [hik];omega) holds a 1 cp [y] (by rw [hik];rfl) hnews Dz Dz (growslice_fits Dz (by rw [hib];exact hb))
  have hge:=grownCap_ge w (n+1) cap e
  have hcm2:=grownCap_le_maxLen w (n+1) cap e Z45
  refine Jm rfl fun f hf'=>⟨_,w.drew.alloc (.cells (xs.toArray++[y].toArray++Builtin.zeroCells z.cells (grownCap w (n+1) cap e-(n+1))) e),?_,kn w.heap.size (grownCap w (n+1) cap e) (xs.toArray++[y].toArray++Builtin.zeroCells z.cells (grownCap w (n+1) cap e-(n+1))) _ ⟨?_,hge,hcm2,by simp [hln],fun j v hv=>?_⟩ (hs.drew.alloc _ (heap_alloc_new w.drew _) (fun k hk=>hk))⟩
  ·simp [execOp,resolve,invoke,builtin,hf'.ev ho,hf'.ev hp,hr]
  ·simp only [Array.size_append,List.size_toArray,size_zeroCells,hzk,hln,List.length_append,List.length_singleton,Nat.mul_one];omega
  ·have hj:=(List.getElem?_eq_some_iff.1 hv).1
   rw [Nat.zero_add,Array.getElem?_append_left (by simpa using hj)]
   simpa using hv
end
section
variable {x:Cx} {W:World→Prop} {E:Env} {K:Value→Prop} {d:Option Tmp} {ty:TypeId} {pos:String} {aft:Array Edge} {g:Option (Nat×Bool)} {o q:Operand}
theorem Ru {t e:TypeId} {b n cp k off:Nat} {kd:IntKind} {j:Int} (l:Nat) (hu:x.P.underlying t=some (.slice e)) (hs:∀ w,(sizeOf e).run x.P w=.ok k w) (h1:ev E o=some (.slice (some ⟨b,0,none⟩) n cp)) (h2:ev E q=some (.int kd j)) (hj:j=(l:Int)) (hl:l<n) (hn:n≤cp) (hoff:off=l*k)
  (kk:K (.slice (some ⟨b,off,none⟩) (n-l) (cp-l))):Y x W ⟨d,.slice t o (some q) none none,ty,pos,aft,g⟩ E K:=by
 subst hj hoff
 have hadd:(⟨b,0,none⟩:Addr).add (l*k)=⟨b,l*k,none⟩:=by
  unfold Addr.add;split
  ·rename_i h0;simp [h0]
  ·simp
 refine De (v:=.slice (some ⟨b,l*k,none⟩) (n-l) (cp-l)) (fun f hf w _=>?_) kk
 simp [execOp,hf.ev h1,hf.ev h2,Instr.sliceAt,Instr.slice,Instr.sliceBounds,Instr.sliceBound,asIntOf,run_underlying hu,hs w,hadd,show l≤n by omega,show ¬ cp=l by omega]
theorem iG {t e:TypeId} {b n cp k:Nat} {kd:IntKind} {j:Int} (l:Nat) (hu:x.P.underlying t=some (.slice e)) (hs:∀ w,(sizeOf e).run x.P w=.ok k w) (h1:ev E o=some (.slice (some ⟨b,0,none⟩) n cp)) (h2:ev E q=some (.int kd j)) (hj:j=(l:Int)) (hl:l≤n) (hn:n≤cp) (h0:0<cp)
  (kk:K (.slice (some ⟨b,0,none⟩) l cp)):Y x W ⟨d,.slice t o none (some q) none,ty,pos,aft,g⟩ E K:=by
 subst hj
 have hadd:(⟨b,0,none⟩:Addr).add 0=⟨b,0,none⟩:=rfl
 refine De (v:=.slice (some ⟨b,0,none⟩) l cp) (fun f hf w _=>?_) kk
 simp [execOp,hf.ev h1,hf.ev h2,Instr.sliceAt,Instr.slice,Instr.sliceBounds,Instr.sliceBound,asIntOf,run_underlying hu,hs w,hadd,show l≤cp by omega,show ¬ cp=0 by omega]
theorem Qm {t e:TypeId} {b n cap k off r:Nat} {kd:IntKind} {j:Int} (l i:Nat) (hu:x.P.underlying t=some (.slice e)) (hs:∀ w,(sizeOf e).run x.P w=.ok k w) (h1:ev E o=some (.slice (some ⟨b,off,none⟩) n cap)) (h2:ev E q=some (.int kd j)) (hj:j=(i:Int)) (hi:i<n) (hoff:off=l*k) (hr:r=(l+i)*k)
  (kk:K (.pointer (some ⟨b,r,none⟩))):Y x W ⟨d,.indexAddr t o q,ty,pos,aft,g⟩ E K:=by
 subst hj hoff
 have e:l*k+i*k=r:=by rw [hr,Nat.add_mul]
 refine De (v:=.pointer (some ⟨b,r,none⟩)) (fun f hf w _=>?_) kk
 simp [execOp,hf.ev h1,hf.ev h2,Instr.indexAt,asIntOf,run_underlying hu,hs w,hi,Addr.add_lit,e]
end
section
variable {x:Cx} {Q:Exit→Env→World→Prop} {E:Env} {K:Value→World→Prop} {w:World} {d:Option Tmp} {ty:TypeId} {pos:String} {aft:Array Edge} {g:Option (Nat×Bool)} {c:Ctx} {G:Ghost} {H:List Res}
theorem bW (z:Array Value) (n:Nat):(Builtin.zeroCells z n).toList.length=n*z.size:=by simp [Builtin.zeroCells]
theorem bX {z:Array Value} {n:Nat} (h0:0<z.size) (h:z.toList.all (·.oneCell')=true):∀ v∈(Builtin.zeroCells z n).toList,v.oneCell'=true:=by
 intro v hv
 simp only [Builtin.zeroCells,Array.toList_map,List.mem_map] at hv
 obtain ⟨i,_,rfl⟩:=hv
 have hi:i % z.size<z.size:=Nat.mod_lt _ h0
 rw [getElem!_pos z _ hi]
 exact List.all_eq_true.1 h _ (by rw [← Array.getElem_toList];exact List.getElem_mem _)
theorem iH {o:Operand} {t te b e n m cap cp k off:Nat} {z:Value} {xs:List Value} (hs:St c G (.row e k (.slice (some ⟨b,0,none⟩) n cap) n xs::H) w) (ht:x.P.underlying t=some (.slice te)) (hv:∀ w,(zeroValue te).run x.P w=.ok z w) (hz:z.cells.size=k) (hk:0<k) (hone:z.cells.toList.all (·.oneCell')=true)
  (h1:ev E o=some (.slice (some ⟨b,off,none⟩) (n-m) cp)) (hoff:off=m*k) (hm:m<n) (kk:∀ w',St c G (.row e k (.slice (some ⟨b,0,none⟩) m cap) m (xs.take (m*k))::H) w'→K (.tuple #[]) w') :
  S x ⟨d,.call { callee:=.builtin .clear,args:=#[o],argTypes:=#[t] },ty,pos,aft,g⟩ Q K E w:=by
 subst hoff
 have hown:w.ownsRow 0 e k (.slice (some ⟨b,0,none⟩) n cap) n xs:=hs.hold (.row e k _ n xs) Dr
 rcases hown.2 with ⟨h,_⟩ | ⟨g',cp',cur,h,h0,hh,hnc,hcm,hsz,htk⟩
 ·cases h
 injection h with h1' h2' h3'
 injection h1' with h1'
 injection h1' with h1'
 subst h1' h3'
 have hmn:m*k+(n-m)*k=n*k:=by rw [← Nat.add_mul];congr 1;omega
 have hck:n*k≤cap*k:=Nat.mul_le_mul_right _ hnc
 have hb:w.heap[b]?=some (.cells cur.toList.toArray e (0,0)):=by simpa using hh
 have hl:(Builtin.zeroCells z.cells (n-m)).toList.length=(n-m)*k:=by rw [bW,hz]
 obtain ⟨w',hr,e1,e2,e3,e4,ed,e5,e6⟩:=Hl (P:=x.P) (b:=b) (e:=e) (j:=m*k) (i:=0) hb (bX (n:=n-m) Dz hone) (by rw [hl,Array.length_toList,hsz];omega)
 obtain ⟨p,hp⟩:∃ p,n-m=p+1:=⟨n-m-1,by omega⟩
 have hrun:(Builtin.clear_ #[t] ty #[.slice (some ⟨b,m*k,none⟩) (n-m) cp]).run x.P w=.ok (.tuple #[]) w':=by
  rw [hp] at hr ⊢
  simp [Builtin.clear_,run_underlying ht,hv,hr]
 have hlm:m*k≤cur.toList.length:=by rw [Array.length_toList,hsz];omega
 refine Jm rfl fun a ha=>⟨.tuple #[],w',?_,kk _ (hs.write e1 e2 e3 Dz (fun k hk hne=>e5 k (fun h=>hne (by simp [Res.foot,Value.ownBlock,h]))) ⟨?_,.inr ⟨b,cap,_,rfl,h0,e6,by omega,hcm,?_,?_⟩⟩ (fun k hk=>.inl hk) (Nat.le_of_eq ed.symm))⟩
 ·simp only [execOp,resolve,invoke,builtin]
  simp [ha.ev h1,hrun]
 ·rw [List.length_take,hown.1];omega
 ·simp only [Nat.add_zero,List.size_toArray,List.length_append,List.length_take,List.length_drop,hl,Array.length_toList,hsz];omega
 ·simp only [Nat.add_zero]
  rw [List.append_assoc,List.take_append_of_le_length (by rw [List.length_take];omega),List.take_take,Nat.min_self,← htk,List.take_take,Nat.min_eq_left Dz]
end
section
variable {α:Type} {lt:α→α→Bool}
structure Ordr (lt:α→α→Bool):Prop where
 asym:∀ a b,lt a b=true→lt b a=false
 trans:∀ a b c,lt b a=false→lt c b=false→lt c a=false
def Srt (lt:α→α→Bool) (l:List α):Prop:=l.Pairwise fun a b=>lt b a=false
theorem Srt.swap {p q:List α} {x y:α} (ho:Ordr lt) (h:Srt lt ((p++[y])++q)) (hq:∀ b∈q,lt b x=false) (hx:lt x y=true):Srt lt (p++(y::q))∧∀ b∈y::q,lt b x=false:=by
 refine ⟨by simpa using h,?_⟩
 intro b hb
 rcases List.mem_cons.1 hb with rfl | hb
 ·exact ho.asym _ _ hx
 ·exact hq b hb
theorem Srt.stop {p q:List α} {x:α} (ho:Ordr lt) (h:Srt lt (p++q)) (hq:∀ b∈q,lt b x=false) (hp:p=[]∨∃ p' y,p=p'++[y]∧lt x y=false):Srt lt (p++x::q):=by
 unfold Srt at *
 rw [List.pairwise_append] at h ⊢
 refine ⟨h.1,?_,?_⟩
 ·rw [List.pairwise_cons];exact ⟨hq,h.2.1⟩
 ·intro a ha b hb
  rcases List.mem_cons.1 hb with rfl | hb
  ·rcases hp with rfl | ⟨p',y,rfl,hy⟩
   ·cases ha
   ·rcases List.mem_append.1 ha with ha | ha
    ·have:=(List.pairwise_append.1 h.1).2.2 a ha y Dr
     exact ho.trans _ _ _ this hy
    ·rw [List.mem_singleton.1 ha];exact hy
  ·exact h.2.2 a ha b hb
theorem uT {p t:List α} {x y:α}:(((p++y::x::t).set (p.length+1) y).set p.length x)=p++x::y::t:=by
 simp [List.set_append]
def Gh [DecidableEq α] (l:List α):List α:=l.foldl (fun acc x=>if acc.getLast?=some x then acc else acc++[x]) []
theorem Pb [DecidableEq α] (l:List α) (x:α):Gh (l++[x])=if (Gh l).getLast?=some x then Gh l else Gh l++[x]:=by
 unfold Gh;rw [List.foldl_append];rfl
theorem rI [DecidableEq α] (l:List α):(Gh l).getLast?=l.getLast?:=by
 rcases List.eq_nil_or_concat l with rfl | ⟨L,b,rfl⟩
 ·rfl
 ·rw [List.concat_eq_append,Pb]
  split
  ·rename_i h;rw [h];simp
  ·simp
theorem Tz [DecidableEq α]:∀ (n:Nat) (l:List α),l.length=n→(∀ x,x∈Gh l↔x∈l)∧(Gh l).Sublist l
 | 0,l,h=>by
  obtain rfl:=List.eq_nil_of_length_eq_zero h
  exact ⟨fun x=>Iff.rfl,lSr _⟩
 | n+1,l,h=>by
  rcases List.eq_nil_or_concat l with rfl | ⟨L,b,rfl⟩
  ·cases h
  ·rw [List.concat_eq_append] at h ⊢
   obtain ⟨h1,h2⟩:=Tz n L bT
   rw [Pb]
   split
   ·rename_i hl
    have hb:b∈L:=(h1 b).1 (List.mem_of_getLast? hl)
    refine ⟨fun x=>?_,h2.trans (lSa _ _)⟩
    rw [h1,List.mem_append,List.mem_singleton]
    exact ⟨.inl,fun h=>h.elim id fun e=>e▸hb⟩
   ·refine ⟨fun x=>?_,h2.append (lSr _)⟩
    rw [List.mem_append,List.mem_append,h1]
theorem Ys [DecidableEq α] {l:List α} {x:α}:x∈Gh l↔x∈l:=(Tz _ l rfl).1 x
theorem uU [DecidableEq α] (l:List α):(Gh l).Sublist l:=(Tz _ l rfl).2
theorem Vg [DecidableEq α] (hto:∀ a b,lt a b=false→lt b a=false→a=b) (ho:Ordr lt):∀ (n:Nat) (l:List α),l.length=n→Srt lt l→(Gh l).Pairwise fun a b=>lt a b=true
 | 0,l,h,_=>by
  obtain rfl:=List.eq_nil_of_length_eq_zero h
  exact List.Pairwise.nil
 | n+1,l,h,hs=>by
  rcases List.eq_nil_or_concat l with rfl | ⟨L,b,rfl⟩
  ·cases h
  ·rw [List.concat_eq_append] at h hs ⊢
   have hs':=List.pairwise_append.1 hs
   have ih:=Vg hto ho n L bT hs'.1
   rw [Pb]
   split
   ·exact ih
   ·rename_i hl
    rw [List.pairwise_append]
    refine ⟨ih,by simp,fun a ha c hc=>?_⟩
    rw [List.mem_singleton.1 hc]
    have hab:lt b a=false:=hs'.2.2 a (Ys.1 ha) b Dr
    cases hlt:lt a b with
    | true=>rfl
    | false =>
     obtain rfl:=hto a b hlt hab
     exfalso
     apply hl
     obtain ⟨y,hy⟩:∃ y,(Gh L).getLast?=some y:=by
      cases hg:(Gh L).getLast? with
      | none=>rw [List.getLast?_eq_none_iff.1 hg] at ha;cases ha
      | some y=>exact ⟨y,rfl⟩
     rw [hy]
     congr 1
     obtain ⟨p,hp⟩:=List.getLast?_eq_some_iff.1 hy
     rw [hp] at ha ih
     rcases List.mem_append.1 ha with ha | ha
     ·have h1:=(List.pairwise_append.1 ih).2.2 a ha y Dr
      have h2:lt a y=false:=hs'.2.2 y (Ys.1 (by rw [hp];simp)) a Dr
      rw [h1] at h2;cases h2
     ·exact (List.mem_singleton.1 ha).symm
end
theorem Nl.pre {cur:Array Value} {o n cap:Nat} {xs:List Value} {y:Value} (h:Nl cur o (n+1) cap (xs++[y])):Nl cur o n cap xs:=by
 have hl:=h.len
 rw [List.length_append,List.length_singleton] at hl
 refine ⟨h.size,by have:=h.le;omega,h.max,by omega,fun i u hu=>h.get i u ?_⟩
 rw [List.getElem?_append_left (List.getElem?_eq_some_iff.1 hu).1];exact hu
section
variable {x:Cx} {Q:Exit→Env→World→Prop} {E:Env} {K:Value→World→Prop} {w:World} {d:Option Tmp} {ty:TypeId} {pos:String} {aft:Array Edge} {g:Option (Nat×Bool)} {c:Ctx} {G:Ghost} {H:List Res}
theorem Od {t e k n:Nat} {ps:List (Nat×Operand)} {z:Value} {zs cs:List Value} {vs:List (Nat×Value)} (hs:St c G H w) (hM0:∀ k,c.M k→k<c.w0.heap.size) (hu:x.P.underlying t=some (.slice e)) (hS:∀ w,(sizeOf e).run x.P w=.ok k w)
  (hz:∀ w,(zeroValue e).run x.P w=.ok z w) (hk:z.cells.size=k) (hzs:(List.replicate n z.cells.toList).flatten=zs) (hn:n*k≤16777216) (hn':n≤16777216) (hv:evs E ps=some vs) (hc:Hc (fun i=>some (i*k,k)) zs vs=some cs) (hl:cs.length=n*k)
  (kk:∀ v w' G',G.le G'→Sl G' v k n cs→St c G' H w'→K v w'):S x ⟨d,.buildSlice t n ps.toArray,ty,pos,aft,g⟩ Q K E w:=by
 have hs1:St c G (.row e k (.slice (some ⟨w.heap.size,0,none⟩) n n) n cs::H) (w.alloc (.cells cs.toArray e)):=hs.alloc _ (Xk hl Z45) (fun j hj=>by simpa [Res.foot,Value.ownBlock] using hj.symm)
 obtain ⟨G',hG,hf,hs2⟩:=hs1.fixRow (fun b hb hM=>by
  have h1:w.heap.size=b:=by simpa [Value.ownBlock] using hb
  have h2:=hM0 b hM
  have h3:=hs.size
  omega)
 refine Jm rfl fun a ha=>⟨.slice (some ⟨w.heap.size,0,none⟩) n n,w.alloc (.cells cs.toArray e),?_,kk _ _ G' hG hf hs2⟩
 have hv':=Ns ha hv
 have hf:=Li hc
 have hr:((Array.range (n*k)).map fun j=>z.cells[j % k]!)=zs.toArray:=by
  rw [← hzs,← Tv z.cells k hk n]
  apply Array.ext'
  simp
 simp only [execOp,Instr.buildSlice,Sem.run_bind,run_underlying hu w,Result.andThen_ok,hS w]
 rw [if_neg Dz]
 simp only [List.map_toArray,hv']
 by_cases h0:n*k=0
 ·have hz0:zs=[]:=by
   have:zs.toArray=#[]:=by rw [← hr,h0];simp
   simpa using this
  subst hz0
  simp only [h0,if_true,Sem.run_bind,Sem.run_pure,Result.andThen_ok]
  have:(Array.map (fun y=>(#[]:Array Value)[y % (#[]:Array Value).size]!) (Array.range 0))=#[]:=by simp
  rw [this,hf]
  simp [newRow]
 ·simp only [h0,if_false,Sem.run_bind,hz w,Result.andThen_ok,Sem.run_pure]
  rw [hk,hr,hf]
  simp [newRow]
end
theorem St.feetLt {w:World} {G:Ghost} {H:List Res} (hs:St ⟨w,G,Bl H⟩ G H w):∀ k,Bl H k→k<w.heap.size:=by
 rintro k ⟨r,hr,hk⟩
 rcases Nat.lt_or_ge k w.heap.size with h | h
 ·exact h
 ·have h1:=hs.hold r hr
  have hn:w.heap[k]?=none:=Array.getElem?_eq_none h
  exfalso
  cases r with
  | row e k' v n xs =>
   rcases h1.2 with ⟨rfl,_⟩ | ⟨b,cap,cur,rfl,_,hh,_⟩
   ·cases hk
   ·have:b=k:=by simpa [Res.foot,Value.ownBlock] using hk
    subst this;rw [hh] at hn;cases hn
  | blk b e cs =>
   have:k=b:=by simpa [Res.foot] using hk
   subst this
   have hh:w.heap[k]?=some (.cells cs.toArray e (0,0)):=h1
   rw [hh] at hn;cases hn
  | obj b o =>
   have:k=b:=by simpa [Res.foot] using hk
   subst this
   have hh:w.heap[k]?=some o:=h1
   rw [hh] at hn;cases hn
section
variable {x:Cx} {E:Env} {w:World} {d:Option Tmp} {ty:TypeId} {pos:String} {aft:Array Edge} {g:Option (Nat×Bool)} {c:Ctx} {G:Ghost} {H:List Res}
theorem Kh {Q:Exit→Env→World→Prop} {K:Value→World→Prop} {o p:Operand} {t b j e n cap k:Nat} {u:Value} {xs:List Value} (hs:St c G (.row e k (.slice (some ⟨b,0,none⟩) n cap) n xs::H) w) (hS:∀ w,(sizeOf t).run x.P w=.ok 1 w) (h1:ev E o=some (.pointer (some ⟨b,j,none⟩))) (h2:ev E p=some u)
  (hone:u.oneCell'=true) (hj:j<n*k) (kk:∀ w',St c G (.row e k (.slice (some ⟨b,0,none⟩) n cap) n (xs.set j u)::H) w'→K undef w'):S x ⟨d,.store t o p,ty,pos,aft,g⟩ Q K E w:=by
 have hown:w.ownsRow 0 e k (.slice (some ⟨b,0,none⟩) n cap) n xs:=hs.hold (.row e k _ n xs) Dr
 rcases hown.2 with ⟨h,_⟩ | ⟨g',cp,cur,h,h0,hh,hnc,hcm,hsz,htk⟩
 ·cases h
 injection h with h1' h2' h3'
 injection h1' with h1'
 injection h1' with h1'
 subst h1' h3'
 have hck:n*k≤cap*k:=Nat.mul_le_mul_right _ hnc
 have hb:St c G (.blk b e cur.toList::H) w:=hs.write rfl rfl rfl (Nat.le_refl _) (fun _ _ _=>rfl) (by simpa [Res.holds] using hh) (fun k hk=>.inl Z23)
 refine Hs hb hS h1 h2 hone (by rw [Array.length_toList];omega) rfl fun w' hs'=>kk w' ?_
 have hh':w'.heap[b]?=some (.cells (cur.toList.set j u).toArray e (0,0)):=hs'.hold (.blk b e _) Dr
 refine hs'.write rfl rfl rfl (Nat.le_refl _) (fun _ _ _=>rfl) ⟨by rw [List.length_set];exact hown.1,.inr ⟨b,cap,_,rfl,h0,hh',hnc,hcm,by simpa using hsz,by rw [← htk];simp [List.take_set]⟩⟩ (fun k hk=>.inl (by
  have h9:b=k:=by simpa [Res.foot,Value.ownBlock] using hk
  exact h9.symm))
end
def iI:Nat→List (List Value)→List (Nat×Value)
 | _,[]=>[]
 | i,c::es=>(i,.agg c.toArray)::iI (i+1) es
theorem Lm:∀ (c zs pre suf:List Value),zs.length=c.length→Rj (pre++(zs++suf)) pre.length c=pre++(c++suf)
 | [],zs,pre,suf,h=>by
  obtain rfl:zs=[]:=List.eq_nil_of_length_eq_zero h
  rfl
 | x::c,z::zs,pre,suf,h=>by
  have ih:=Lm c zs (pre++[x]) suf bT
  rw [Rj,List.cons_append,List.set_append_right _ _ (Nat.le_refl _),Nat.sub_self,List.set_cons_zero]
  rw [List.length_append,List.length_singleton,List.append_assoc,List.append_assoc] at ih
  exact ih
 | _::_,[],_,_,h=>by cases h
theorem Ua {k:Nat}:∀ (es:List (List Value)) (i:Nat) (pre zs:List Value),pre.length=i*k→zs.length=es.length*k→(∀ c∈es,c.length=k)→Hc (fun i=>some (i*k,k)) (pre++zs) (iI i es)=some (pre++es.flatten)
 | [],i,pre,zs,_,hz,_=>by
  obtain rfl:zs=[]:=List.eq_nil_of_length_eq_zero (by simpa using hz)
  rfl
 | c::es,i,pre,zs,hp,hz,hk=>by
  have hc:=hk c List.mem_cons_self
  rw [List.length_cons,Nat.succ_mul] at hz
  have e:zs=zs.take k++zs.drop k:=(List.take_append_drop k zs).symm
  have hl:(zs.take k).length=c.length:=by rw [List.length_take];omega
  have hput:Rj (pre++zs) (i*k) c=(pre++c)++zs.drop k:=by
   rw [← hp];conv=>lhs;rw [e]
   rw [Lm c _ pre _ hl,List.append_assoc]
  have hb1:Nat.beq (Value.agg c.toArray).cells.toList.length k=true:=by rw [show (Value.agg c.toArray).cells.toList=c from rfl,hc];exact Nat.beq_refl k
  have hb2:Nat.ble (i*k+(Value.agg c.toArray).cells.toList.length) (pre++zs).length=true:=by
   rw [show (Value.agg c.toArray).cells.toList=c from rfl,hc,List.length_append,hp,hz];exact Nat.ble_eq_true_of_le Dz
  rw [iI,Hc]
  simp only [hb1,hb2,Bool.and_true,cond_true]
  rw [show (Value.agg c.toArray).cells.toList=c from rfl,hput,Ua es (i+1) (pre++c) (zs.drop k) (by rw [List.length_append,hp,hc,Nat.succ_mul]) (by rw [List.length_drop,hz];omega) (fun d hd=>hk d (List.mem_cons_of_mem _ hd)),List.flatten_cons,List.append_assoc]
theorem Mb {l:List Value}:∀ n,((List.replicate n l).flatten).length=n*l.length
 | 0=>by simp
 | n+1=>by rw [List.replicate_succ,List.flatten_cons,List.length_append,Mb n,Nat.succ_mul,Nat.add_comm]
theorem Fg {k:Nat} {es:List (List Value)} (h:es.all (fun c=>Nat.beq c.length k)=true):∀ c∈es,c.length=k:=fun c hc=>Nat.eq_of_beq_eq_true (List.all_eq_true.1 h c hc)
theorem Ub {k:Nat}:∀ {es:List (List Value)},(∀ c∈es,c.length=k)→es.flatten.length=es.length*k
 | [],_=>by simp
 | c::es,h=>by rw [List.flatten_cons,List.length_append,h c List.mem_cons_self,Ub fun d hd=>h d (List.mem_cons_of_mem _ hd),List.length_cons,Nat.succ_mul,Nat.add_comm]
section
variable {x:Cx} {Q:Exit→Env→World→Prop} {E:Env} {K:Value→World→Prop} {w:World} {d:Option Tmp} {ty:TypeId} {pos:String} {aft:Array Edge} {g:Option (Nat×Bool)} {c:Ctx} {G:Ghost} {H:List Res}
theorem Fp {t e k n:Nat} {ps:List (Nat×Operand)} {z:Value} {es:List (List Value)} (hs:St c G H w) (hu:x.P.underlying t=some (.slice e)) (hS:∀ w,(sizeOf e).run x.P w=.ok k w)
  (hz:∀ w,(zeroValue e).run x.P w=.ok z w) (hk:Nat.beq z.cells.size k=true) (hn:Nat.ble (n*k) 16777216=true) (hn':Nat.ble n 16777216=true) (hne:n=es.length) (hv:evs E ps=some (iI 0 es)) (hl:es.all (fun c=>Nat.beq c.length k)=true)
  (kk:∀ v w',St c G (.row e k v n es.flatten::H) w'→(∃ b,v=.slice (some ⟨b,0,none⟩) n n)→K v w'):S x ⟨d,.buildSlice t n ps.toArray,ty,pos,aft,g⟩ Q K E w :=
 have hk':=Nat.eq_of_beq_eq_true hk
 have hl':=Fg hl
 Ca hs hu hS hz hk' rfl (Nat.le_of_ble_eq_true hn) (Nat.le_of_ble_eq_true hn') hv (by
  have:=Ua es 0 [] (List.replicate n z.cells.toList).flatten Dr (by rw [Mb,show z.cells.toList.length=k from hk',hne]) hl'
  simpa using this) (by rw [Ub hl',hne]) kk
theorem eJ {t e k n:Nat} {ps:List (Nat×Operand)} {z:Value} {es:List (List Value)} (hs:St c G H w) (hM0:∀ k,c.M k→k<c.w0.heap.size) (hu:x.P.underlying t=some (.slice e)) (hS:∀ w,(sizeOf e).run x.P w=.ok k w)
  (hz:∀ w,(zeroValue e).run x.P w=.ok z w) (hk:Nat.beq z.cells.size k=true) (hn:Nat.ble (n*k) 16777216=true) (hn':Nat.ble n 16777216=true) (hne:n=es.length) (hv:evs E ps=some (iI 0 es)) (hl:es.all (fun c=>Nat.beq c.length k)=true)
  (kk:∀ v w' G',G.le G'→Sl G' v k n es.flatten→St c G' H w'→K v w'):S x ⟨d,.buildSlice t n ps.toArray,ty,pos,aft,g⟩ Q K E w :=
 have hk':=Nat.eq_of_beq_eq_true hk
 have hl':=Fg hl
 Od hs hM0 hu hS hz hk' rfl (Nat.le_of_ble_eq_true hn) (Nat.le_of_ble_eq_true hn') hv (by
  have:=Ua es 0 [] (List.replicate n z.cells.toList).flatten Dr (by rw [Mb,show z.cells.toList.length=k from hk',hne]) hl'
  simpa using this) (by rw [Ub hl',hne]) kk
end
theorem iJ (n:Int):IntKind.u16.wrap n=n % 65536:=by
 simp [IntKind.wrap,IntKind.bits,IntKind.signed]
section
variable {x:Cx} {W:World→Prop} {E:Env} {K:Value→Prop} {d:Option Tmp} {ty:TypeId} {pos:String} {aft:Array Edge} {g:Option (Nat×Bool)} {kd:IntKind} {a b:Int} {o p:Operand} {xt yt:TypeId}
theorem uV {c:Int} (h1:ev E o=some (.int kd a)) (h2:ev E p=some (.int kd b)) (hc:kd.wrap (a+b)=c) (k:K (.int kd c)):Y x W ⟨d,.binOp .add xt o p yt,ty,pos,aft,g⟩ E K:=lC h1 h2 (hc▸k)
theorem uW {c:Int} (h1:ev E o=some (.int kd a)) (h2:ev E p=some (.int kd b)) (hc:kd.wrap (a*b)=c) (k:K (.int kd c)):Y x W ⟨d,.binOp .mul xt o p yt,ty,pos,aft,g⟩ E K:=lD h1 h2 (hc▸k)
theorem Yy {c:Int} (h1:ev E o=some (.int kd a)) (h2:ev E p=some (.int kd b)) (ha:0≤a) (hb:0<b) (hc:kd.wrap (a / b)=c) (k:K (.int kd c)):Y x W ⟨d,.binOp .quo xt o p yt,ty,pos,aft,g⟩ E K:=by
 have e:(kd.wrap (a.tdiv b))=c:=by rw [Int.tdiv_eq_ediv_of_nonneg ha,hc]
 exact De (v:=.int kd c) (fun f hf w _=>Gv Dr (by simp [binOp,Op.intDiv,show b≠0 by omega,e]) (hf.ev h1) (hf.ev h2)) k
end
end Go.Ex
namespace Go.Ex
open Go Go.RowKit Go.ChangeShapes Go.WideShapes Go.ChangeAt
section
variable {H:Type} {enc:TypeId×Value→H} {P:Program}
def Ks:Value→Int
 | .int _ z=>z
 | _=>0
theorem Rv {α:Type} {cs:List α} {i:Nat} (h:i<cs.length):(cs.drop i).take 1=[cs[i]]:=by
 rw [List.drop_eq_getElem_cons h];rfl
theorem Uc {W:World} {t e:TypeId} {k:IntKind} {fuel n:Nat} {cs:List Value} {x:DataW H×List MemPlace} (ht:P.underlying t=some (.array n e)) (he:P.underlying e=some (.int k)) (hc1:P.cellsOf e=1) (hl:cs.length=n)
  (h:DataW.trod enc P W 0 (fun _=>true) true fuel t cs=some x):cs=(cs.map Ks).map (.int k)∧∀ z∈cs.map Ks,(Lit.int k z).wf=true:=by
 obtain ⟨xs,m,_,_,_,hn,hx⟩:=DataW.trod_array ht h
 have key:∀ (i:Nat) (hi:i<cs.length),∃ z,cs[i]=.int k z∧(Lit.int k z).wf=true:=fun i hi=>by
  have h0:=hx i Dz
  rw [hc1,Nat.mul_one,Rv hi] at h0
  obtain ⟨z,e0,w⟩:=Xx he (x:=xs[i]'Dz) (by rw [h0];exact List.getElem?_eq_getElem Dz)
  exact ⟨z,e0,w⟩
 constructor
 ·apply List.ext_getElem
  ·simp
  ·intro i h1 h2
   obtain ⟨z,e0,_⟩:=key i h1
   rw [List.getElem_map,List.getElem_map,e0];rfl
 ·intro z hz
  obtain ⟨v,hv,rfl⟩:=List.mem_map.1 hz
  obtain ⟨i,hi,rfl⟩:=List.getElem_of_mem hv
  obtain ⟨z,e0,w⟩:=key i hi
  rw [e0];exact w
theorem Kz {z:Int} (h:(Lit.int .u8 z).wf=true):∃ y:UInt8,z=(y.toNat:Int):=u8_of h
theorem We {z:Int} (h:(Lit.int .u16 z).wf=true):∃ y:Nat,y<65536∧z=(y:Int):=by
 have hx:0≤z∧z≤65535:=by simpa [Lit.wf,IntKind.min,IntKind.max,IntKind.signed,IntKind.bits] using h
 exact ⟨z.toNat,by omega,by omega⟩
theorem u32_nat {z:Int} (h:(Lit.int .u32 z).wf=true):∃ y:Nat,y<4294967296∧z=(y:Int):=by
 have hx:0≤z∧z≤4294967295:=by simpa [Lit.wf,IntKind.min,IntKind.max,IntKind.signed,IntKind.bits] using h
 exact ⟨z.toNat,by omega,by omega⟩
structure RawTy (P:Program) (t:TypeId) where
 f:Fin 5→Field
 e1:TypeId
 e2:TypeId
 e4:TypeId
 ht:P.underlying t=some (.struct #[f 0,f 1,f 2,f 3,f 4])
 ct:P.cellsOf t=14
 off:(f 0).offset=0∧(f 1).offset=1∧(f 2).offset=5∧(f 3).offset=10∧(f 4).offset=11
 cel:P.cellsOf (f 0).type=1∧P.cellsOf (f 1).type=4∧P.cellsOf (f 2).type=5∧P.cellsOf (f 3).type=1∧P.cellsOf (f 4).type=3
 und:P.underlying (f 0).type=some (.int .u8)∧P.underlying (f 1).type=some (.array 4 e1)∧P.underlying (f 2).type=some (.array 5 e2)∧P.underlying (f 3).type=some (.int .u32)∧P.underlying (f 4).type=some (.array 3 e4)
 el:P.underlying e1=some (.int .u8)∧P.underlying e2=some (.int .u8)∧P.underlying e4=some (.int .u16)
 ce:P.cellsOf e1=1∧P.cellsOf e2=1∧P.cellsOf e4=1
theorem rJ {W:World} {t:TypeId} {ls:List Value} {fuel:Nat} {x:DataW H×List MemPlace} (T:RawTy P t) (h:DataW.trod enc P W 0 (fun _=>true) true fuel t ls=some x) :
  ∃ (sz p0 p1 p2 p3 n0 n1 n2 n3 n4:UInt8) (ed r0 r1 r2:Nat),ed<4294967296∧r0<65536∧r1<65536∧r2<65536∧ls=[.int .u8 (sz.toNat:Int),.int .u8 (p0.toNat:Int),.int .u8 (p1.toNat:Int),.int .u8 (p2.toNat:Int),.int .u8 (p3.toNat:Int),.int .u8 (n0.toNat:Int),.int .u8 (n1.toNat:Int),.int .u8 (n2.toNat:Int),.int .u8 (n3.toNat:Int),.int .u8 (n4.toNat:Int),.int .u32 (ed:Int),.int .u16 (r0:Int),.int .u16 (r1:Int),.int .u16 (r2:Int)]:=by
 obtain ⟨f,e1,e2,e4,ht,ct,⟨o0,o1,o2,o3,o4⟩,⟨c0,c1,c2,c3,c4⟩,⟨u0,u1,u2,u3,u4⟩,⟨l1,l2,l4⟩,⟨d1,d2,d4⟩⟩:=T
 obtain ⟨xs,m,_,_,hl,hxl,hf⟩:=DataW.trod_struct ht h
 have hl2:ls.length=14:=hl.trans ct
 clear hl
 match ls,hl2 with
 | [a0,a1,a2,a3,a4,a5,a6,a7,a8,a9,a10,a11,a12,a13],_ =>
  have g0:=hf 0 (f 0) rfl
  have g1:=hf 1 (f 1) rfl
  have g2:=hf 2 (f 2) rfl
  have g3:=hf 3 (f 3) rfl
  have g4:=hf 4 (f 4) rfl
  rw [o0,c0] at g0;rw [o1,c1] at g1;rw [o2,c2] at g2;rw [o3,c3] at g3;rw [o4,c4] at g4
  have hx:xs.length=5:=hxl
  obtain ⟨z0,e0,w0⟩:=Xx u0 (x:=xs[0]'Dz) (v:=a0) (by rw [← List.getElem?_eq_getElem];exact g0)
  obtain ⟨z3,e3,w3⟩:=Xx u3 (x:=xs[3]'Dz) (v:=a10) (by rw [← List.getElem?_eq_getElem];exact g3)
  obtain ⟨q1,w1⟩:=Uc (cs:=[a1,a2,a3,a4]) (x:=xs[1]'Dz) u1 l1 d1 rfl (by rw [← List.getElem?_eq_getElem];exact g1)
  obtain ⟨q2,w2⟩:=Uc (cs:=[a5,a6,a7,a8,a9]) (x:=xs[2]'Dz) u2 l2 d2 rfl (by rw [← List.getElem?_eq_getElem];exact g2)
  obtain ⟨q4,w4⟩:=Uc (cs:=[a11,a12,a13]) (x:=xs[4]'Dz) u4 l4 d4 rfl (by rw [← List.getElem?_eq_getElem];exact g4)
  simp only [List.map_cons,List.map_nil,List.cons.injEq,and_true] at q1 q2 q4
  obtain ⟨sz,rfl⟩:=Kz w0
  obtain ⟨ed,hed,rfl⟩:=u32_nat w3
  obtain ⟨p0,hp0⟩:=Kz (w1 (Ks a1) Dr)
  obtain ⟨p1,hp1⟩:=Kz (w1 (Ks a2) Dr)
  obtain ⟨p2,hp2⟩:=Kz (w1 (Ks a3) Dr)
  obtain ⟨p3,hp3⟩:=Kz (w1 (Ks a4) Dr)
  obtain ⟨n0,hn0⟩:=Kz (w2 (Ks a5) Dr)
  obtain ⟨n1,hn1⟩:=Kz (w2 (Ks a6) Dr)
  obtain ⟨n2,hn2⟩:=Kz (w2 (Ks a7) Dr)
  obtain ⟨n3,hn3⟩:=Kz (w2 (Ks a8) Dr)
  obtain ⟨n4,hn4⟩:=Kz (w2 (Ks a9) Dr)
  obtain ⟨r0,hr0,h0⟩:=We (w4 (Ks a11) Dr)
  obtain ⟨r1,hr1,h1⟩:=We (w4 (Ks a12) Dr)
  obtain ⟨r2,hr2,h2⟩:=We (w4 (Ks a13) Dr)
  rw [hp0,hp1,hp2,hp3] at q1
  rw [hn0,hn1,hn2,hn3,hn4] at q2
  rw [h0,h1,h2] at q4
  obtain ⟨y1,y2,y3,y4⟩:=q1
  obtain ⟨y5,y6,y7,y8,y9⟩:=q2
  obtain ⟨y11,y12,y13⟩:=q4
  exact ⟨sz,p0,p1,p2,p3,n0,n1,n2,n3,n4,ed,r0,r1,r2,hed,hr0,hr1,hr2,by rw [y1,y2,y3,y4,y5,y6,y7,y8,y9,y11,y12,y13,e0,e3]⟩
end
end Go.Ex
