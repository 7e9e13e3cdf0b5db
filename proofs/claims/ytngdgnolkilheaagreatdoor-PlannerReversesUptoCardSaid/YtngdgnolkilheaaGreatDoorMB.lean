/- Part 2 of the walk through the functions that the laws of package fleet call: each function's contract, without conditions but those that its statement names. -/
import Derived.Test.YtngdgnolkilheaaGreatDoorMA
set_option maxHeartbeats 4000000
set_option maxRecDepth 10000
set_option linter.unusedVariables false
set_option linter.unusedSimpArgs false
set_option linter.unusedSectionVars false
namespace Go.Ex
open Go Go.RowKit
theorem kR {p:Prop} (h:p:=by kernel_rfl):p:=h
theorem oM {p:Prop} (h:p:=by omega):p:=h
theorem sM {p:Prop} (h:p:=by simp):p:=h
theorem aS {p:Prop} (h:p:=by assumption):p:=h
theorem dC {p:Prop} (h:p:=by decide):p:=h
theorem rF {p:Prop} (h:p:=by exact rfl):p:=h
abbrev Vn:Value:=.slice none 0 0
abbrev Vf:Value:=.bool false
abbrev Vt:Value:=.bool true
abbrev Vi (n:Int):Value:=.int .i64 n
abbrev Vp (b:Nat):Value:=.pointer (some ⟨b,0,none⟩)
abbrev Vs (b n c:Nat):Value:=.slice (some ⟨b,0,none⟩) n c
class Ia (P:Program) (t:Nat) (b:outParam Bool):Prop where p:∀ w,(isAgg t).run P w=.ok b w
class Sz (P:Program) (t:Nat) (n:outParam Nat):Prop where p:∀ w,(sizeOf t).run P w=.ok n w
class Un (P:Program) (t:Nat) (d:outParam TypeDesc):Prop where p:P.underlying t=some d
class Fo (P:Program) (s i:Nat) (n:outParam Nat):Prop where p:Lh P s i=some n
class Ic (P:Program) (f:Nat) (fn:outParam Func):Prop where
 p:P.funcs[f]?=some fn
 b:fn.body.isSome=true
 n : (fn.name == "runtime.NumGoroutine") = false
def nl:List Value→Option (List Value)
 | []=>some []
 | a::l=>match nl l with
  | none=>none
  | some r=>some (a::r)
theorem cX:∀ {l r:List Value},nl l=some r→l=r
 | [],r,h=>by injection h
 | a::l,r,h=>by
  unfold nl at h
  cases h1:nl l with
  | none=>rw [h1] at h;cases h
  | some u=>rw [h1] at h;injection h with h;rw [cX h1,h]
section
variable {P:Program} {N:Nat} {r:Option Nat} {ops:Array Oper} {Q:Exit→Env→World→Prop} {D:List Deferred} {L M:List (Nat×Value)} {E:Env} {w:World} {W:World→Prop} {l:List Oper} {d:Option Tmp} {t:Tmp} {op:Op} {ty:TypeId} {pos:String} {aft:Array Edge} {g:Option (Nat×Bool)} {o q:Operand} {v:Value}
 {c:Ctx} {G:Ghost} {H:List Res} {K:Value→Prop}
theorem Zk {cd:Code} (ks:List Nat) (h:Rq M ks=some L) (k:T ⟨P,N,r⟩ cd Q ⟨D,L⟩ w):T ⟨P,N,r⟩ cd Q ⟨D,M⟩ w:=T_kp ks h k
theorem Zr {id:Nat} (k:O ⟨P,N,r⟩ l.toArray Q l E w) (h:Ly N l=true:=by exact rfl):T ⟨P,N,r⟩ (.region id l.toArray false) Q E w:=gM h k
theorem Zl {id:Nat} {cd:Code} (ks:List Nat) (I:Nat→Env→World→Prop) {n0:Nat} (h:Rq M ks=some L) (h0:I n0 ⟨D,L⟩ w) (k:∀ n E w,I n E w→T ⟨P,N,r⟩ cd (lp I n (bk id Q)) E w):T ⟨P,N,r⟩ (.block id (.loop cd)) Q ⟨D,M⟩ w :=
 Dp (Tr I (Ll h) h0 k)
theorem Zy (hs:W w) (k:Y ⟨P,N,r⟩ W ⟨some t,op,ty,pos,aft,none⟩ ⟨D,L⟩ fun v=>O ⟨P,N,r⟩ ops Q l ⟨D,(t,v)::L⟩ w) (hd:Iv op=true:=by exact rfl):O ⟨P,N,r⟩ ops Q (⟨some t,op,ty,pos,aft,none⟩::l) ⟨D,L⟩ w:=O_y hs k hd
theorem Zg (hs:W w) {j d:Nat} {b:Bool} (h:((ops[j]?).bind (·.dst),Ge L d)=(some d,some (.bool b)))
  (k:Y ⟨P,N,r⟩ W ⟨some t,op,ty,pos,aft,some (j,b)⟩ ⟨D,L⟩ fun v=>O ⟨P,N,r⟩ ops Q l ⟨D,(t,v)::L⟩ w) (hd:Iv op=true:=by exact rfl):O ⟨P,N,r⟩ ops Q (⟨some t,op,ty,pos,aft,some (j,b)⟩::l) ⟨D,L⟩ w :=
 O_yy d hs (congrArg Prod.fst h) (congrArg Prod.snd h) k hd
section
variable {pre:List Nat} {fuel:Nat} {listed:Array Bool}
theorem Xt (i:Nat) (hW:W w) (h:(ops[i]?,gd ops ⟨some t,op,ty,pos,aft,g⟩ ⟨D,L⟩)=(some ⟨some t,op,ty,pos,aft,g⟩,some true))
  (k:Y ⟨P,N,r⟩ W ⟨some t,op,ty,pos,aft,g⟩ ⟨D,L⟩ fun v=>A ⟨P,N,r⟩ ops pre W Q fuel (listed.setIfInBounds i true) ⟨D,(t,v)::L⟩ w) (hf:Ts ops pre listed i=true:=by kernel_rfl):A ⟨P,N,r⟩ ops pre W Q (fuel+1) listed ⟨D,L⟩ w :=
 uE i (congrArg Prod.fst h) hf (congrArg Prod.snd h) hW k
theorem Xo (i:Nat) (h:(ops[i]?,gd ops ⟨some t,op,ty,pos,aft,g⟩ ⟨D,L⟩)=(some ⟨some t,op,ty,pos,aft,g⟩,some true))
  (k:S ⟨P,N,r⟩ ⟨some t,op,ty,pos,aft,g⟩ (np Q) (fun v w'=>W w'∧A ⟨P,N,r⟩ ops pre W Q fuel (listed.setIfInBounds i true) ⟨D,(t,v)::L⟩ w') ⟨D,L⟩ w) (hr:(Region.ready .any ops listed == [i])=true:=by kernel_rfl):A ⟨P,N,r⟩ ops pre W Q (fuel+1) listed ⟨D,L⟩ w :=
 A_only i (congrArg Prod.fst h) hr (congrArg Prod.snd h) k
theorem Xa (i:Nat) (h:(ops[i]?,gd ops ⟨some t,op,ty,pos,aft,g⟩ ⟨D,L⟩)=(some ⟨some t,op,ty,pos,aft,g⟩,some true))
  (k:S ⟨P,N,r⟩ ⟨some t,op,ty,pos,aft,g⟩ (np Q) (fun v w'=>A ⟨P,N,r⟩ ops pre W Q fuel (listed.setIfInBounds i true) ⟨D,(t,v)::L⟩ w') ⟨D,L⟩ w) (hr:(Region.ready .any ops listed == [i])=true:=by kernel_rfl) (hp:pre.contains i=false:=by kernel_rfl):A ⟨P,N,r⟩ ops pre W Q (fuel+1) listed ⟨D,L⟩ w :=
 A_tail i (congrArg Prod.fst h) hr hp (congrArg Prod.snd h) k
theorem Xn (i:Nat) (h:(ops[i]?,gd ops ⟨none,op,ty,pos,aft,g⟩ E)=(some ⟨none,op,ty,pos,aft,g⟩,some true))
  (k:S ⟨P,N,r⟩ ⟨none,op,ty,pos,aft,g⟩ (np Q) (fun _ w'=>A ⟨P,N,r⟩ ops pre W Q fuel (listed.setIfInBounds i true) E w') E w) (hr:(Region.ready .any ops listed == [i])=true:=by kernel_rfl) (hp:pre.contains i=false:=by kernel_rfl):A ⟨P,N,r⟩ ops pre W Q (fuel+1) listed E w :=
 A_tailN i (congrArg Prod.fst h) hr hp (congrArg Prod.snd h) k
theorem Xm (i:Nat) (h:(ops[i]?,gd ops ⟨none,op,ty,pos,aft,g⟩ E)=(some ⟨none,op,ty,pos,aft,g⟩,some true))
  (k:S ⟨P,N,r⟩ ⟨none,op,ty,pos,aft,g⟩ (np Q) (fun _ w'=>W w'∧A ⟨P,N,r⟩ ops pre W Q fuel (listed.setIfInBounds i true) E w') E w) (hr:(Region.ready .any ops listed == [i])=true:=by kernel_rfl):A ⟨P,N,r⟩ ops pre W Q (fuel+1) listed E w :=
 A_onlyN i (congrArg Prod.fst h) hr (congrArg Prod.snd h) k
theorem Xe (k:Q .normal E w) (hr:(Region.ready .any ops listed).isEmpty=true:=by kernel_rfl):A ⟨P,N,r⟩ ops pre W Q fuel listed E w:=Qh hr k
end
theorem Yf {s i b j n:Nat} (m:Nat) [hf:Fo P s i n] (h:ev E o=some (.pointer (some ⟨b,j,none⟩))) (k:K (.pointer (some ⟨b,m,none⟩))) (hm:j+n=m:=by exact rfl):Y ⟨P,N,r⟩ W ⟨d,.fieldAddr s o i,ty,pos,aft,g⟩ E K :=
 Vb hf.p h hm k
theorem Yq (h:ev E o=some v) (k:K v):Y ⟨P,N,r⟩ W ⟨d,.assign o,ty,pos,aft,g⟩ E K:=gN h k
section
variable {kd:IntKind} {a b:Int} {xt yt:TypeId} {bo:BinOp}
theorem Yc {p:Prop} (h:(ev E o,ev E q,Va bo)=(some (.int kd a),some (.int kd b),true)) (k1:p→K (.bool true)) (k2:¬ p→K (.bool false)) (e:p=Il bo a b:=by first|(dsimp only [Il];done)|exact rfl):Y ⟨P,N,r⟩ W ⟨d,.binOp bo xt o q yt,ty,pos,aft,g⟩ E K :=
 Nr (congrArg Prod.fst h) (congrArg (fun x=>x.2.1) h) (congrArg (fun x=>x.2.2) h) (fun h=>k1 (e▸h)) (fun h=>k2 (e▸h))
theorem Ya {s:Int} (h:(ev E o,ev E q)=(some (.int .i64 a),some (.int .i64 b))) (k:K (.int .i64 s)) (hc:a+b=s:=by omega) (hb : -9223372036854775808≤s∧s≤9223372036854775807:=by omega):Y ⟨P,N,r⟩ W ⟨d,.binOp .add xt o q yt,ty,pos,aft,g⟩ E K :=
 Eb (congrArg Prod.fst h) (congrArg Prod.snd h) hc hb k
end
theorem Yk {t e b n:Nat} {cs:List Value} (i:Nat) [hA:Ia P t true] [hS:Sz P t n] (h:(ev E o,H[i]?)=(some (.pointer (some ⟨b,0,none⟩)),some (.blk b e cs))) (hn:cs.length=n) (k:K (.agg cs.toArray)):Y ⟨P,N,r⟩ (St c G H) ⟨d,.load t o,ty,pos,aft,g⟩ E K :=
 Y_ldW i hA.p hS.p (congrArg Prod.fst h) (congrArg Prod.snd h) hn k
theorem Yg {t:Nat} {p:Addr} (h:ev E o=some (.pointer (some p))) (hp:Ft G p=some v) (k:K v) [hA:Ia P t false]:Y ⟨P,N,r⟩ (St c G H) ⟨d,.load t o,ty,pos,aft,g⟩ E K:=Y_ldG hA.p h hp k
section
variable {K:Value→World→Prop}
theorem Sc {f:FuncId} {ao:List Operand} {ats:Array TypeId} {args:List Value} {H1:List Res} {R:Value→Ghost→List Res→Prop} {fn:Func} (h:Ai P f args G H1 R) (hs:St c G (H1++H) w) (ha:ao.map (ev E)=args.map some)
  (kk:∀ v G' H' w',R v G' H'→G.le G'→St c G' (H'++H) w'→K v w') [hF:Ic P f fn]:S ⟨P,N,r⟩ ⟨d,.call { callee:=.value (.func f),args:=ao.toArray,argTypes:=ats },ty,pos,aft,g⟩ Q K E w :=
 Et hs ha hF.p hF.b hF.n h kk
theorem Sa {e:TypeId} {z:Value} {cs:List Value} (hs:St c G H w) (hz:∀ w,(zeroValue e).run P w=.ok z w) (hc:nl z.cells.toList=some cs) (k:∀ b w',St c G (.blk b e cs::H) w'→K (.pointer (some ⟨b,0,none⟩)) w'):S ⟨P,N,r⟩ ⟨d,.alloc e,ty,pos,aft,g⟩ Q K E w :=
 Bd hs hz (cX hc) k
theorem Sb {e:TypeId} {cs:List Value} (hs:St c G H w) (h:(ev E o,nl v.cells.toList)=(some v,some cs)) (k:∀ b w',St c G (.blk b e cs::H) w'→K (.pointer (some ⟨b,0,none⟩)) w'):S ⟨P,N,r⟩ ⟨d,.box e o,ty,pos,aft,g⟩ Q K E w :=
 Dw hs (congrArg Prod.fst h) (cX (congrArg Prod.snd h)) k
theorem Sd {t b j e:Nat} {cs cs':List Value} (hs:St c G (.blk b e cs::H) w) [hS:Sz P t 1] (h:(ev E o,ev E q,nl (cs.set j v))=(some (.pointer (some ⟨b,j,none⟩)),some v,some cs')) (hone:v.oneCell'=true) (k:∀ w',St c G (.blk b e cs'::H) w'→K undef w') (hj:j<cs.length:=by simp):S ⟨P,N,r⟩ ⟨d,.store t o q,ty,pos,aft,g⟩ Q K E w :=
 Hs hs hS.p (congrArg Prod.fst h) (congrArg (fun x=>x.2.1) h) hone hj (cX (congrArg (fun x=>x.2.2) h)) k
theorem Sg {t b j e n:Nat} {vs cs cs':List Value} (hs:St c G (.blk b e cs::H) w) [hS:Sz P t n] (h:(ev E o,ev E q,nl (cs.take j++vs++cs.drop (j+n)))=(some (.pointer (some ⟨b,j,none⟩)),some (.agg vs.toArray),some cs')) (hone:vs.all (·.oneCell')=true)
  (k:∀ w',St c G (.blk b e cs'::H) w'→K undef w') (hn:vs.length=n:=by exact rfl) (hj:j+n≤cs.length:=by simp):S ⟨P,N,r⟩ ⟨d,.store t o q,ty,pos,aft,g⟩ Q K E w :=
 Es hs hS.p (congrArg Prod.fst h) (congrArg (fun x=>x.2.1) h) hn hone hj (cX (congrArg (fun x=>x.2.2) h)) k
theorem Sw {t b e n:Nat} {vs cs:List Value} (hs:St c G (.blk b e cs::H) w) [hS:Sz P t n] (h:(ev E o,ev E q)=(some (.pointer (some ⟨b,0,none⟩)),some (.agg vs.toArray)))
  (hn:vs.length=n) (hc:cs.length=n) (hone:vs.all (·.oneCell')=true) (k:∀ w',St c G (.blk b e vs::H) w'→K undef w'):S ⟨P,N,r⟩ ⟨d,.store t o q,ty,pos,aft,g⟩ Q K E w :=
 Ro hs hS.p (congrArg Prod.fst h) (congrArg Prod.snd h) hn hc hone k
theorem Se {t e k n:Nat} {ps:List (Nat×Operand)} {z:Value} {cs:List Value} {vs:List (Nat×Value)} (hs:St c G H w) [hS:Sz P e k] (hz:∀ w,(zeroValue e).run P w=.ok z w)
  (h:(evs E ps,Hc (fun i=>some (i*k,k)) (List.replicate n z.cells.toList).flatten vs)=(some vs,some cs)) (kk:∀ v w',St c G (.row e k v n cs::H) w'→(∃ b,v=.slice (some ⟨b,0,none⟩) n n)→K v w')
  [hu:Un P t (.slice e)] (hk:z.cells.size=k:=by exact rfl) (hn:n*k≤16777216:=by decide) (hn':n≤16777216:=by decide) (hl:cs.length=n*k:=by exact rfl):S ⟨P,N,r⟩ ⟨d,.buildSlice t n ps.toArray,ty,pos,aft,g⟩ Q K E w :=
 Ca hs hu.p hS.p hz hk rfl hn hn' (congrArg Prod.fst h) (congrArg Prod.snd h) hl kk
end
theorem Zz {fn:Func} {rv:ResultVar} {v:Value} {R:Value→World→Prop} (hr:fn.results=#[rv]) (h:Mv P E w rv v) (hR:R v w) (hd:E.d=[]:=by exact rfl):Rt P N fn R .ret E w:=Bi (vs:=[v]) (rs:=[rv]) hr hd ⟨h,trivial⟩ hR
theorem Rb {a b e n:Nat} {ty:TypeId} {cs:List Value} (i:Nat) (hs:St c G H w) [hA:Ia P ty true] [hS:Sz P ty n] (h:(Ge E.l a,H[i]?)=(some (.pointer (some ⟨b,0,none⟩)),some (.blk b e cs))) (hn:cs.length=n):Mv P E w (.cell a ty) (.agg cs.toArray) :=
 Bk i hs hA.p hS.p (congrArg Prod.fst h) (congrArg Prod.snd h) hn
end
def nR:List Res→Option (List Res)
 | []=>some []
 | a::l=>match nR l with
  | none=>none
  | some r=>some (a::r)
theorem nR_eq:∀ {l r:List Res},nR l=some r→l=r
 | [],r,h=>by injection h
 | a::l,r,h=>by
  unfold nR at h
  cases h1:nR l with
  | none=>rw [h1] at h;cases h
  | some u=>rw [h1] at h;injection h with h;rw [nR_eq h1,h]
theorem St.n {c:Ctx} {G:Ghost} {H H':List Res} {w:World} (hs:St c G H w) (h:nR H=some H'):St c G H' w:=nR_eq h▸hs
structure Te (P:Program) where
 t:Nat
 b:Bool
 n:Nat
 hb:∀ w,(isAgg t).run P w=.ok b w
 hn:b=true→∀ w,(sizeOf t).run P w=.ok n w
structure Fe (P:Program) where
 s:Nat
 i:Nat
 n:Nat
 h:Lh P s i=some n
structure Se' (P:Program) where
 t:Nat
 e:Nat
 h:P.underlying t=some (.slice e)
structure Tq (P:Program) where
 ts:List (Te P)
 fs:List (Fe P)
 ss:List (Se' P)
variable {P:Program}
def tf (t:Nat):List (Te P)→Option (Te P)
 | []=>none
 | e::l=>bif Nat.beq e.t t then some e else tf t l
def ff (s i:Nat):List (Fe P)→Option (Fe P)
 | []=>none
 | e::l=>bif Nat.beq e.s s && Nat.beq e.i i then some e else ff s i l
def sf (t:Nat):List (Se' P)→Bool
 | []=>false
 | e::l=>bif Nat.beq e.t t then true else sf t l
theorem tf_eq {t:Nat}:∀ {l:List (Te P)} {e:Te P},tf t l=some e→e.t=t
 | [],_,h=>by cases h
 | a::l,e,h=>by
  unfold tf at h
  cases hb:Nat.beq a.t t with
  | true=>rw [hb] at h;injection h with h;exact h▸Nat.eq_of_beq_eq_true hb
  | false=>rw [hb] at h;exact tf_eq h
theorem ff_eq {s i:Nat}:∀ {l:List (Fe P)} {e:Fe P},ff s i l=some e→e.s=s∧e.i=i
 | [],_,h=>by cases h
 | a::l,e,h=>by
  unfold ff at h
  cases hb:(Nat.beq a.s s && Nat.beq a.i i) with
  | true =>
   rw [hb] at h;injection h with h;subst h
   rw [Bool.and_eq_true] at hb
   exact ⟨Nat.eq_of_beq_eq_true hb.1,Nat.eq_of_beq_eq_true hb.2⟩
  | false=>rw [hb] at h;exact ff_eq h
theorem sf_eq {t:Nat}:∀ {l:List (Se' P)},sf t l=true→∃ e,P.underlying t=some (.slice e)
 | [],h=>by cases h
 | a::l,h=>by
  unfold sf at h
  cases hb:Nat.beq a.t t with
  | true=>exact ⟨a.e,Nat.eq_of_beq_eq_true hb▸a.h⟩
  | false=>rw [hb] at h;exact sf_eq h
def kdq:IntKind→IntKind→Bool
 | .i64,.i64=>true
 | .u64,.u64=>true
 | .u8,.u8=>true
 | .u32,.u32=>true
 | _,_=>false
theorem kdq_eq {a b:IntKind} (h:kdq a b=true):a=b:=by
 cases a<;>cases b<;>first|rfl|cases h
def cmpB (o:BinOp) (a b:Int):Option Bool :=
 match o with
 | .eql=>some (decide (a=b))|.neq=>some (!decide (a=b))|.lss=>some (decide (a<b))|.leq=>some (decide (a≤b))|.gtr=>some (decide (b<a))|.geq=>some (decide (b≤a))|_=>none
theorem oE {o:BinOp} {a b:Int} {t:Bool} (h:cmpB o a b=some t):Va o=true∧(Il o a b↔t=true):=by
 cases o<;>first|(cases h;done)|(refine ⟨rfl,?_⟩;injection h with h;subst h;simp [Il])
def qv (F:Tq P) (H:List Res) (E:Env) (op:Op) (h:List Nat):Option (Value×List (Nat×Nat)×List Nat) :=
 match op with
 | .move o=>match ev E o with
  | some v=>some (v,[],h)
  | none=>none
 | .assign o=>match ev E o with
  | some v=>some (v,[],h)
  | none=>none
 | .pick c o q=>match ev E c with
  | some (.bool true)=>(match ev E o with|some v=>some (v,[],h)|none=>none)
  | some (.bool false)=>(match ev E q with|some v=>some (v,[],h)|none=>none)
  | _=>none
 | .extract o i=>match ev E o with
  | some (.tuple ⟨vs⟩)=>(match vs[i]? with|some v=>some (v,[],h)|none=>none)
  | _=>none
 | .unOp .not _ o=>match ev E o with
  | some (.bool b)=>some (.bool !b,[],h)
  | _=>none
 | .binOp bo _ o q _=>match ev E o,ev E q with
  | some (.int kd a),some (.int kd' b)=>(match kdq kd kd',cmpB bo a b with
   | true,some t=>some (.bool t,[],h)
   | _,_=>none)
  | _,_=>none
 | .fieldAddr s o i=>match ev E o,ff s i F.fs,h with
  | some (.pointer (some ⟨b,j,none⟩)),some e,m::h=>bif Nat.beq (j+e.n) m then some (.pointer (some ⟨b,m,none⟩),[],h) else none
  | _,_,_=>none
 | .load t o=>match ev E o,tf t F.ts,h with
  | some (.pointer (some ⟨b,j,none⟩)),some e,m::h=>(match H[m]? with
   | some (.blk b' _ cs)=>bif e.b then (match nl ((cs.drop j).take e.n) with
     | some vs=>bif Nat.beq vs.length e.n then some (.agg ⟨vs⟩,[(b,b')],h) else none
     | none=>none)
    else (match cs[j]? with | some v=>some (v,[(b,b')],h) | none=>none)
   | _=>none)
  | _,_,_=>none
 | .call ⟨.builtin .len,⟨[o]⟩,⟨[t]⟩⟩=>match ev E o,sf t F.ss with
  | some (.slice _ n _),true=>some (.int .i64 (n:Int),[],h)
  | _,_=>none
 | _=>none
def eqs (es:List (Nat×Nat)):Prop:=es.map Prod.fst=es.map Prod.snd
theorem eL {a b:List (Nat×Nat)} (h:eqs (a++b)):eqs a∧eqs b:=by
 unfold eqs at h ⊢
 rw [List.map_append,List.map_append] at h
 exact List.append_inj h Dr
section
variable {N:Nat} {r:Option Nat} {c:Ctx} {G:Ghost} {H:List Res} {E:Env} {F:Tq P} {d:Option Tmp} {op:Op} {ty:TypeId} {pos:String} {aft:Array Edge} {g:Option (Nat×Bool)} {K:Value→Prop} {v:Value} {es:List (Nat×Nat)} {h h':List Nat}
theorem qv_nd (hq:qv F H E op h=some (v,es,h')):Iv op=true:=by
 cases op<;>first|rfl|cases hq
theorem uX (hq:qv F H E op h=some (v,es,h')) (he:eqs es) (k:K v):Y ⟨P,N,r⟩ (St c G H) ⟨d,op,ty,pos,aft,g⟩ E K:=by
 unfold qv at hq
 split at hq
 ·split at hq
  ·rename_i hv;injection hq with hq;injection hq with h1 h2;subst h1;exact Tu hv k
  ·cases hq
 ·split at hq
  ·rename_i hv;injection hq with hq;injection hq with h1 h2;subst h1;exact gN hv k
  ·cases hq
 ·split at hq
  ·rename_i hc;split at hq
   ·rename_i hv;injection hq with hq;injection hq with h1 h2;subst h1;exact Y_pickT hc hv k
   ·cases hq
  ·rename_i hc;split at hq
   ·rename_i hv;injection hq with hq;injection hq with h1 h2;subst h1;exact Y_pickF hc hv k
   ·cases hq
  ·cases hq
 ·split at hq
  ·rename_i hc;split at hq
   ·rename_i hv;injection hq with hq;injection hq with h1 h2;subst h1;exact Oz hc (by simpa using hv) k
   ·cases hq
  ·cases hq
 ·split at hq
  ·rename_i hv;injection hq with hq;injection hq with h1 h2;subst h1;exact Y_not hv k
  ·cases hq
 ·split at hq
  ·rename_i h1 h2
   split at hq
   ·rename_i hk hc
    injection hq with hq;injection hq with h3 h4;subst h3
    obtain rfl:=kdq_eq hk
    exact Qi h1 h2 (oE hc).1 (oE hc).2 k
   ·cases hq
  ·cases hq
 ·split at hq
  ·rename_i s o i h b j e m h0 hv hf
   obtain ⟨rfl,rfl⟩:=ff_eq hf
   cases hb:Nat.beq (j+e.n) m with
   | true =>
    rw [hb] at hq;injection hq with hq;injection hq with h1 h2;subst h1
    exact Vb e.h hv (Nat.eq_of_beq_eq_true hb) k
   | false=>rw [hb] at hq;cases hq
  ·cases hq
 ·split at hq
  ·rename_i t o h b j e m h0 hv hf
   obtain rfl:=tf_eq hf
   split at hq
   ·rename_i b' y cs hi
    cases hb:e.b with
    | true =>
     rw [hb] at hq
     simp only [cond_true] at hq
     split at hq
     ·rename_i vs hvs
      cases hn:Nat.beq vs.length e.n with
      | true =>
       rw [hn] at hq;injection hq with hq;injection hq with h1 h2;injection h2 with h2 h3;subst h1;subst h2
       have:b=b':=by unfold eqs at he;injection he
       subst this
       exact Gl m (by have:=e.hb;rwa [hb] at this) (e.hn hb) hv hi (cX hvs) (Nat.eq_of_beq_eq_true hn) k
      | false=>rw [hn] at hq;cases hq
     ·cases hq
    | false =>
     rw [hb] at hq
     simp only [cond_false] at hq
     split at hq
     ·rename_i u hu
      injection hq with hq;injection hq with h1 h2;injection h2 with h2 h3;subst h1;subst h2
      have:b=b':=by unfold eqs at he;injection he
      subst this
      exact Db m (by have:=e.hb;rwa [hb] at this) hv hi hu k
     ·cases hq
   ·cases hq
  ·cases hq
 ·split at hq
  ·rename_i hv hf
   obtain ⟨e,he'⟩:=sf_eq hf
   injection hq with hq;injection hq with h1 h2;subst h1
   exact uH he' hv k
  ·cases hq
 ·cases hq
end
inductive Md
 | cd (c:Code)
 | op (ops:Array Oper) (l:List Oper)
 | q (e:Exit)
inductive It
 | cd (d:Code)
 | bk (id:Nat)
@[reducible] def sqs (x:Cx):List It→(Exit→Env→World→Prop)→Exit→Env→World→Prop
 | [],Q=>Q
 | .cd d::ds,Q=>sq (T x d (sqs x ds Q)) (sqs x ds Q)
 | .bk i::ds,Q=>bk i (sqs x ds Q)
@[reducible] def At (x:Cx) (m:Md) (Q:Exit→Env→World→Prop) (E:Env) (w:World):Prop :=
 match m with
 | .cd c=>T x c Q E w
 | .op ops l=>O x ops Q l E w
 | .q e=>Q e E w
def pop:List It→Exit→Md×List It
 | [],e=>(.q e,[])
 | .cd d::ds,e=>(match e with
  | .normal=>(.cd d,ds)
  | e=>pop ds e)
 | .bk i::ds,e=>(match e with
  | .exit j=>bif Nat.beq j i then pop ds .normal else pop ds (.exit j)
  | e=>pop ds e)
theorem Ud {x:Cx} {Q:Exit→Env→World→Prop} {E:Env} {w:World}:∀ {ds ds':List It} {e:Exit} {m:Md},pop ds e=(m,ds')→At x m (sqs x ds' Q) E w→sqs x ds Q e E w:=by
 intro ds
 induction ds with
 | nil=>intro _ _ _ h k;injection h with h1 h2;subst h1;subst h2;exact k
 | cons a ds ih =>
  intro ds' e m h k
  unfold pop at h
  cases a with
  | cd d =>
   cases e with
   | normal=>injection h with h1 h2;subst h1;subst h2;exact k
   | _=>exact ih h k
  | bk i =>
   cases e with
   | exit j =>
    simp only at h
    show bif Nat.beq j i then sqs x ds Q .normal E w else sqs x ds Q (.exit j) E w
    cases hb:Nat.beq j i with
    | true=>rw [hb] at h;exact ih h k
    | false=>rw [hb] at h;exact ih h k
   | _=>exact ih h k
def kp (L:List (Nat×Value)):List Nat→Option (List (Nat×Value)×List Nat)
 | []=>none
 | 0::h=>some (L,h)
 | k::h=>match Rq L (h.take k) with
  | some L=>some (L,h.drop k)
  | none=>none
theorem kp_ok {L L':List (Nat×Value)} {h h':List Nat} (hk:kp L h=some (L',h')):L'=L∨Ja L' L:=by
 unfold kp at hk
 split at hk
 ·cases hk
 ·injection hk with hk;injection hk with h1 h2;exact .inl h1.symm
 ·split at hk
  ·rename_i he;injection hk with hk;injection hk with h1 h2;subst h1;exact .inr (Ll he)
  ·cases hk
theorem O_sub {x:Cx} {ops:Array Oper} {Q:Exit→Env→World→Prop} {l:List Oper} {D:List Deferred} {L M:List (Nat×Value)} {w:World} (hs:Ja L M) (h:O x ops Q l ⟨D,L⟩ w):O x ops Q l ⟨D,M⟩ w :=
 fun hd a ha=>h hd a (ha.sub (E:=⟨D,M⟩) hs)
def qc (F:Tq P) (N:Nat) (H:List Res) (D:List Deferred):Nat→Md→List It→List (Nat×Value)→List Nat→Option (Md×List It×List (Nat×Value)×List (Nat×Nat))
 | 0,m,ds,L,_=>some (m,ds,L,[])
 | n+1,.op ops l,ds,L,h=>(match l with
  | []=>(match kp L h with
   | some (L,h)=>(match pop ds .normal with|(m,ds)=>qc F N H D n m ds L h)
   | none=>none)
  | ⟨some t,op,_,_,_,g⟩::l=>(match g with
   | none=>(match qv F H ⟨D,L⟩ op h with
    | some (v,es,h)=>(match qc F N H D n (.op ops l) ds ((t,v)::L) h with
     | some (m,ds,L,es')=>some (m,ds,L,es++es')
     | none=>none)
    | none=>none)
   | some (j,b)=>(match (ops[j]?).bind (·.dst) with
    | some d=>(match Ge L d with
     | some (.bool b')=>bif b' == b then (match qv F H ⟨D,L⟩ op h with
       | some (v,es,h)=>(match qc F N H D n (.op ops l) ds ((t,v)::L) h with
        | some (m,ds,L,es')=>some (m,ds,L,es++es')
        | none=>none)
       | none=>none)
      else qc F N H D n (.op ops l) ds ((t,undef)::L) h
     | _=>none)
    | none=>none))
  | _=>none)
 | n+1,.cd c,ds,L,h=>(match c with
  | .seq a b=>qc F N H D n (.cd a) (.cd b::ds) L h
  | .region _ ⟨l⟩ false=>bif Ly N l then qc F N H D n (.op ⟨l⟩ l) ds L h else none
  | .cond c p q=>(match ev ⟨D,L⟩ c with
   | some (.bool true)=>qc F N H D n (.cd p) ds L h
   | some (.bool false)=>qc F N H D n (.cd q) ds L h
   | _=>none)
  | .block i c=>qc F N H D n (.cd c) (.bk i::ds) L h
  | .skip=>(match pop ds .normal with|(m,ds)=>qc F N H D n m ds L h)
  | .exit i=>(match pop ds (.exit i) with|(m,ds)=>qc F N H D n m ds L h)
  | _=>none)
 | _+1,.q _,_,_,_=>none
section
variable {N:Nat} {r:Option Nat} {Q:Exit→Env→World→Prop} {D:List Deferred} {c:Ctx} {G:Ghost} {H:List Res} {w:World} {F:Tq P}
theorem oF (hs:St c G H w):∀ {n:Nat} {m m':Md} {ds ds':List It} {L L':List (Nat×Value)} {h:List Nat} {es:List (Nat×Nat)},
  qc F N H D n m ds L h=some (m',ds',L',es)→eqs es→At ⟨P,N,r⟩ m' (sqs ⟨P,N,r⟩ ds' Q) ⟨D,L'⟩ w→At ⟨P,N,r⟩ m (sqs ⟨P,N,r⟩ ds Q) ⟨D,L⟩ w:=by
 intro n
 induction n with
 | zero =>
  intro m m' ds ds' L L' h es hq he k
  unfold qc at hq;injection hq with hq;injection hq with h1 h2;injection h2 with h2 h3;injection h3 with h3 h4;subst h1;subst h2;subst h3;exact k
 | succ n ih =>
  intro m m' ds ds' L L' h es hq he k
  cases m with
  | op ops l =>
   unfold qc at hq
   split at hq
   ·split at hq
    ·rename_i hk
     rcases kp_ok hk with rfl | hk
     ·exact Cl (Ud rfl (ih hq he k))
     ·exact O_sub hk (Cl (Ud rfl (ih hq he k)))
    ·cases hq
   ·split at hq
    ·split at hq
     ·rename_i hv
      split at hq
      ·rename_i hr
       injection hq with hq;injection hq with h1 h2;injection h2 with h2 h3;injection h3 with h3 h4;subst h1;subst h2;subst h3;subst h4
       obtain ⟨e1,e2⟩:=eL he
       exact O_y hs (uX hv e1 (ih hr e2 k)) (qv_nd hv)
      ·cases hq
     ·cases hq
    ·rename_i t op _ _ _ g l0 j b
     split at hq
     ·rename_i d hd
      split at hq
      ·rename_i b' hb
       cases hbb:(b' == b) with
       | true =>
        rw [hbb] at hq
        simp only [cond_true] at hq
        split at hq
        ·rename_i hv
         split at hq
         ·rename_i hr
          injection hq with hq;injection hq with h1 h2;injection h2 with h2 h3;injection h3 with h3 h4;subst h1;subst h2;subst h3;subst h4
          obtain ⟨e1,e2⟩:=eL he
          have hb2:b'=b:=by simpa using hbb
          exact O_yy d hs hd (hb2▸hb) (uX hv e1 (ih hr e2 k)) (qv_nd hv)
         ·cases hq
        ·cases hq
       | false =>
        rw [hbb] at hq
        have hb2:b'=!b:=by cases b<;>cases b'<;>simp_all
        exact O_no d hd (hb2▸hb) (ih hq he k)
      ·cases hq
     ·cases hq
   ·cases hq
  | cd c =>
   unfold qc at hq
   split at hq
   ·exact T_seq (ih hq he k)
   ·rename_i l
    cases hd:Ly N l with
    | true=>rw [hd] at hq;exact gM hd (ih hq he k)
    | false=>rw [hd] at hq;cases hq
   ·split at hq
    ·rename_i hv;exact nJ hv (ih hq he k)
    ·rename_i hv;exact nK hv (ih hq he k)
    ·cases hq
   ·exact Dp (ih hq he k)
   ·exact Wz (Ud rfl (ih hq he k))
   ·exact uB (Ud rfl (ih hq he k))
   ·cases hq
  | q e=>unfold qc at hq;cases hq
end
theorem Zx {x:Cx} {ops:Array Oper} {Q:Exit→Env→World→Prop} {D:List Deferred} {M L:List (Nat×Value)} {w:World} {I:Nat→Env→World→Prop} {m n:Nat} (ks:List Nat) (h:Rq M ks=some L) (hI:I m ⟨D,L⟩ w) (hm:m<n:=by omega):O x ops (sqs x [] (lp I n Q)) [] ⟨D,M⟩ w :=
 Cl ⟨m,hm,L,Ll h,hI⟩
def qa (F:Tq P) (H:List Res) (ops:Array Oper) (D:List Deferred):List Nat→List (Nat×Value)→List Nat→Option (List (Nat×Value)×List (Nat×Nat))
 | [],L,_=>some (L,[])
 | i::n,L,h=>match ops[i]? with
  | some ⟨some t,op,ty,pos,aft,g⟩=>(match gd ops ⟨some t,op,ty,pos,aft,g⟩ ⟨D,L⟩ with
   | some true=>(match qv F H ⟨D,L⟩ op h with
    | some (v,es,h)=>(match qa F H ops D n ((t,v)::L) h with
     | some (L,es')=>some (L,es++es')
     | none=>none)
    | none=>none)
   | some false=>qa F H ops D n ((t,undef)::L) h
   | none=>none)
  | _=>none
def qt (ops:Array Oper) (pre:List Nat):Array Bool→List Nat→Bool
 | _,[]=>true
 | li,i::n=>Ts ops pre li i && qt ops pre (li.setIfInBounds i true) n
def qs (li:Array Bool):List Nat→Array Bool
 | []=>li
 | i::n=>qs (li.setIfInBounds i true) n
section
variable {N:Nat} {r:Option Nat} {ops:Array Oper} {pre:List Nat} {Q:Exit→Env→World→Prop} {D:List Deferred} {c:Ctx} {G:Ghost} {H:List Res} {w:World} {F:Tq P}
theorem qa_ok (hs:St c G H w):∀ {n:List Nat} {fu:Nat} {li:Array Bool} {L L':List (Nat×Value)} {h:List Nat} {es:List (Nat×Nat)},
  qa F H ops D n L h=some (L',es)→eqs es→qt ops pre li n=true→A ⟨P,N,r⟩ ops pre (St c G H) Q fu (qs li n) ⟨D,L'⟩ w→A ⟨P,N,r⟩ ops pre (St c G H) Q (fu+n.length) li ⟨D,L⟩ w:=by
 intro n
 induction n with
 | nil =>
  intro fu li L L' h es hq he ht k
  unfold qa at hq;injection hq with hq;injection hq with h1 h2;subst h1;exact k
 | cons i n ih =>
  intro fu li L L' h es hq he ht k
  unfold qt at ht
  rw [Bool.and_eq_true] at ht
  unfold qa at hq
  split at hq
  ·rename_i hi
   split at hq
   ·rename_i hg
    split at hq
    ·rename_i hv
     split at hq
     ·rename_i hr
      injection hq with hq;injection hq with h1 h2;subst h1;subst h2
      obtain ⟨e1,e2⟩:=eL he
      exact uE i hi ht.1 hg hs (uX hv e1 (ih hr e2 ht.2 k))
     ·cases hq
    ·cases hq
   ·rename_i hg
    exact A_skip i hi ht.1 hg hs (ih hq he ht.2 k)
   ·cases hq
  ·cases hq
theorem qa_le (hs:St c G H w) {n:List Nat} {fu:Nat} {li:Array Bool} {L L':List (Nat×Value)} {h:List Nat} {es:List (Nat×Nat)}
  (hq:qa F H ops D n L h=some (L',es)) (he:eqs es) (ht:(qt ops pre li n && Nat.ble n.length fu)=true) (k:A ⟨P,N,r⟩ ops pre (St c G H) Q (fu-n.length) (qs li n) ⟨D,L'⟩ w):A ⟨P,N,r⟩ ops pre (St c G H) Q fu li ⟨D,L⟩ w:=by
 rw [Bool.and_eq_true] at ht
 have h2:n.length≤fu:=Nat.le_of_ble_eq_true ht.2
 have:=qa_ok hs (fu:=fu-n.length) hq he ht.1 k
 rwa [Nat.sub_add_cancel h2] at this
end
def Hp (H H':List Res):Prop:=∀ k,Bl H k→Bl H' k
theorem Hp.refl (H:List Res):Hp H H:=fun _ h=>h
theorem Hp.trans {A B C:List Res} (h:Hp A B) (h2:Hp B C):Hp A C:=fun k hk=>h2 k (h k hk)
theorem Hp.cons {r r':Res} {H H':List Res} (h:∀ k,r.foot k→r'.foot k) (h2:Hp H H'):Hp (r::H) (r'::H'):=by
 rintro k ⟨s,hs,hk⟩
 rcases List.mem_cons.1 hs with rfl | hs
 ·exact ⟨r',List.mem_cons_self,h k hk⟩
 ·obtain ⟨s',hs',hk'⟩:=h2 k ⟨s,hs,hk⟩
  exact ⟨s',List.mem_cons_of_mem _ hs',hk'⟩
theorem Hp.tl {r:Res} {H H':List Res} (h:Hp H H'):Hp H (r::H'):=fun k hk=>by
 obtain ⟨s,hs,hk'⟩:=h k hk
 exact ⟨s,List.mem_cons_of_mem _ hs,hk'⟩
def Wf (G G':Ghost):Prop:=Ghost.le G G'
theorem Wf.refl (G:Ghost):Wf G G:=gLr G
theorem Wf.mono {G0 G G':Ghost} (h:G.le G') (hl:Wf G0 G):Wf G0 G':=Ghost.le.trans hl h
theorem Hp.nil (H:List Res):Hp [] H:=fun _ ⟨_,h,_⟩=>by cases h
theorem Hp.cm {r r':Res} {H H':List Res} (i:Nat) (hi:H'[i]?=some r') (h:∀ k,r.foot k→r'.foot k) (h2:Hp H H'):Hp (r::H) H':=by
 rintro k ⟨s,hs,hk⟩
 rcases List.mem_cons.1 hs with rfl | hs
 ·exact ⟨r',List.mem_of_getElem? hi,h k hk⟩
 ·exact h2 k ⟨s,hs,hk⟩
theorem St.name {c:Ctx} {G:Ghost} {H:List Res} {w:World} (_:St c G H w):∃ Gp,Gp=G:=⟨_,rfl⟩
theorem Hp.app {H H' A:List Res} (h:Hp H H'):Hp H (H'++A):=fun k hk=>by
 obtain ⟨s,hs,hk'⟩:=h k hk
 exact ⟨s,List.mem_append_left _ hs,hk'⟩
def Vis {α:Type} (P:Program) (f:FuncId) (caps:List Value) (Rx:Ghost→List Value→α→Prop) (xs:List α) (G:Ghost):Prop :=
 ∀ (lp:Nat) (H0:List Res) (G0:Ghost) (J:Nat→Ghost→List Res→Prop) (K:Ghost→List Res→Prop),G.le G0→(∀ n G1 G2 H,Ghost.le G1 G2→J n G1 H→J n G2 H)→(∀ G1 G2 H,Ghost.le G1 G2→K G1 H→K G2 H) →
  (∀ n x v G' H',xs[n]?=some x→Rx G' v x→G0.le G'→J n G' H'→Dm P lp v G' H' fun b G'' H''=>(b=.bool true∧J (n+1) G'' H''∧Hp H' H'')∨(b=.bool false∧K G'' H''))→J 0 G0 H0 →
  Ai P f (.func (.yield lp) #[] #[]::caps) G0 H0 fun _ G' H'=>J xs.length G' H'∨K G' H'
theorem Vis.mono {α:Type} {P:Program} {f:FuncId} {caps:List Value} {Rx:Ghost→List Value→α→Prop} {xs:List α} {G G1:Ghost} (h:G.le G1) (hv:Vis P f caps Rx xs G):Vis P f caps Rx xs G1 :=
 fun lp H0 G0 J K hle=>hv lp H0 G0 J K (Ghost.le.trans h hle)
theorem oG {α:Type} {P:Program} {c:Ctx} {G:Ghost} {H:List Res} {w:World} {N gf:Nat} {E:Env} {g:Operand} {ps:Array Tmp} {assign body:Code} {Q:Exit→Env→World→Prop} {lb:List Value} {fn:Func} {H1:List Res} {Rx:Ghost→List Value→α→Prop} {xs:List α}
  (I : Nat → Ghost → List Res → Prop) (R : Code → Ghost → List Res → Prop) (hV : Vis P gf lb Rx xs G) (hs : St c G (H1 ++ H) w) (hg : ev E g = some (.func (.func gf) #[] lb.toArray)) (hfn : P.funcs[gf]? = some fn) (hb : fn.body.isSome = true) (hnm : (fn.name == "runtime.NumGoroutine") = false)
  (hI0:I 0 G H1) (hIm:∀ n G1 G2 H,Ghost.le G1 G2→I n G1 H→I n G2 H) (hRm:∀ cd G1 G2 H,Ghost.le G1 G2→R cd G1 H→R cd G2 H)
  (round:∀ (l D:Nat) (rec:Loop) n x v G' H2,rec.params=ps→rec.assign=assign→rec.body=body→rec.state=.ready→rec.pending=none→Ag N ⟨[],E.l⟩ { tmps:=rec.tmps,defers:=[] }→xs[n]?=some x→Rx G' v x→G.le G'→I n G' H2 →
   Dm P l v G' (.obj l (.loop rec)::.obj D (.deferred (some []))::H2) fun b G'' H''=>(b=.bool true∧∃ H3,H''=.obj l (.loop rec)::.obj D (.deferred (some []))::H3∧I (n+1) G'' H3∧Hp H2 H3) ∨
    (b=.bool false∧∃ H3 cd,H''=.obj l (.loop { rec with state:=.done,pending:=some cd })::.obj D (.deferred (some []))::H3∧R cd G'' H3))
  (done:∀ (l D:Nat) o G' H2 w',I xs.length G' H2→Hp H1 H2→G.le G'→St c G' (.obj D (.deferred (some []))::.obj l o::(H2++H)) w'→Q .normal ⟨{ target:=.collected D,args:=#[] }::E.d,E.l⟩ w')
  (early:∀ (l D:Nat) o cd G' H2 w',R cd G' H2→G.le G'→St c G' (.obj D (.deferred (some []))::.obj l o::(H2++H)) w'→T ⟨P,N,none⟩ cd Q ⟨{ target:=.collected D,args:=#[] }::E.d,E.l⟩ w') :
  T ⟨P,N,none⟩ (.rangeFunc g ps assign body) Q E w:=by
 refine Rm (R:=fun j G' H2=>match j with | none=>I xs.length G' H2∧Hp H1 H2 | some cd=>R cd G' H2) hs hg hfn hb hnm ?_ ?_
 ·intro l D rec h1 h2 h3 h4 h5 hA
  refine Ai.mono (hV l _ G (fun n G' H'=>∃ H2,H'=.obj l (.loop rec)::.obj D (.deferred (some []))::H2∧I n G' H2∧Hp H1 H2)
   (fun G' H'=>∃ H2 cd,H'=.obj l (.loop { rec with state:=.done,pending:=some cd })::.obj D (.deferred (some []))::H2∧R cd G' H2)
   (gLr _) ?_ ?_ ?_ ⟨_,rfl,hI0,Hp.refl _⟩) ?_
  ·rintro n G1 G2 H' hle ⟨H2,rfl,hI,hC⟩;exact ⟨H2,rfl,hIm _ _ _ _ hle hI,hC⟩
  ·rintro G1 G2 H' hle ⟨H2,cd,rfl,hR⟩;exact ⟨H2,cd,rfl,hRm _ _ _ _ hle hR⟩
  ·rintro n x v G' H' hx hv hle ⟨H2,rfl,hI,hC0⟩ w hw
   refine YieldAt.mono' (round l D rec n x v G' H2 h1 h2 h3 h4 h5 hA hx hv hle hI w hw) ?_
   rintro e w' ⟨b,G'',H'',he,hs',(⟨hb,H3,rfl,hI3,hC⟩ | ⟨hb,H3,cd,rfl,hR⟩)⟩
   ·exact ⟨b,G'',_,he,hs',.inl ⟨hb,⟨H3,rfl,hI3,hC0.trans hC⟩,(hC.cons fun _ h=>h).cons fun _ h=>h⟩⟩
   ·exact ⟨b,G'',_,he,hs',.inr ⟨hb,H3,cd,rfl,hR⟩⟩
  ·rintro r G' H' _ (⟨H2,rfl,hI⟩ | ⟨H2,cd,rfl,hR⟩)
   ·refine ⟨H2,none,.ready,?_,by simp,hI⟩
    cases rec with
    | mk s p a b e i j k=>dsimp only at h4 h5 ⊢;subst h4;subst h5;rfl
   ·exact ⟨H2,some cd,.done,rfl,by simp,hR⟩
 ·intro l D o j G' H2 w' hR hle hs'
  cases j with
  | none=>exact done l D o G' H2 w' hR.1 hR.2 hle hs'
  | some cd=>exact early l D o cd G' H2 w' hR hle hs'
theorem eM {w0:World} {G0 G:Ghost} {r:Res} {H0 H:List Res} {w:World} (hs:St ⟨w0,G0,Bl H0⟩ G (r::H) w) (h:∀ k,Bl H0 k→Bl H k):∀ k,r.foot k→¬ (⟨w0,G0,Bl H0⟩:Ctx).M k:=by
 intro k hk hM
 obtain ⟨s,hs',hk'⟩:=h k hM
 exact (List.pairwise_cons.1 hs.apart).1 s hs' k hk hk'
theorem Ln {x:Cx} {c:Ctx} {G:Ghost} {H:List Res} {w:World} {l:Nat} {E:Env} {g:Operand} {ao:List Operand} {ats:Array TypeId} {args:List Value} {H1:List Res} {R:Value→Ghost→List Res→Prop} {d:Option Tmp} {ty:TypeId} {pos:String} {aft:Array Edge} {gd:Option (Nat×Bool)}
  {Q:Exit→Env→World→Prop} {K:Value→World→Prop} (hs:St c G (H1++H) w) (hg:ev E g=some (.func (.yield l) #[] #[])) (ha:ao.map (ev E)=args.map some) (h:Dm x.P l args G H1 R)
  (kk:∀ v G' H' w',R v G' H'→G.le G'→St c G' (H'++H) w'→K v w'):S x ⟨d,.call { callee:=.value g,args:=ao.toArray,argTypes:=ats },ty,pos,aft,gd⟩ Q K E w:=by
 intro a hA next hn
 have hargs:=evals hA ao args ha
 obtain ⟨fn,tmps,assign,body,hy,hR⟩:=h.call hs
 refine ⟨fun _ _=>trivial,?_⟩
 rw [Oper.semAt_eq _ _ _ (fun c hc=>by cases hc)]
 have hr:(execOp a.eval ⟨d,.call { callee:=.value g,args:=ao.toArray,argTypes:=ats },ty,pos,aft,gd⟩).run x.P w=.ok (.round l fn tmps assign body) w:=by
  simp [execOp,resolve,Deferred.ofValue,hA.ev hg,invoke,hargs,hy]
 rw [hr]
 refine ⟨fun h=>gK,?_⟩
 have hR2:RoundIn (RF x.r) 0 x.P l fn tmps assign body w _:=hR
 refine RoundIn.mono hR2 ?_
 intro e w' he
 obtain ⟨v,G',H',rfl,hle,hs',hR⟩:=he
 exact hn _ _ (kk v G' H' w' hR hle hs')
def Yz (Ds:List Nat):List Deferred:=Ds.map fun D=>{ target:=.collected D,args:=#[] }
def Cc (Ds:List Nat):List Res:=Ds.map fun D=>.obj D (.deferred (some []))
theorem St.marks {c:Ctx} {G:Ghost} {H:List Res}:∀ (Ds:List Nat) {w:World},St c G (Cc Ds++H) w→∃ w',nU (Yz Ds) w w'∧St c G H w'
 | [],w,h=>⟨w,rfl,h⟩
 | D::Ds,w,h=>by
  have hs:St c G (.obj D (.deferred (some []))::(Cc Ds++H)) w:=h
  have hD:w.heap[D]?=some (.deferred (some [])):=hs.hold (.obj D (.deferred (some []))) Dr
  have h2:St c G (.obj D (.deferred none)::(Cc Ds++H)) (w.putObj D (.deferred none)) :=
   hs.write rfl rfl rfl Dr (fun k _ hk=>World.putObj_heap_other hk) (World.putObj_heap_same (Dk hD)) (fun k hk=>.inl hk)
  obtain ⟨w',h3,h4⟩:=St.marks Ds h2.drop
  exact ⟨w',⟨D,rfl,hD,h3⟩,h4⟩
theorem Hf {c:Ctx} {G:Ghost} {H:List Res} {P:Program} {N:Nat} {Ds:List Nat} {E:Env} {w:World} {fn:Func} {rs:List ResultVar} {vs:List Value} {R:Value→World→Prop} (hs:St c G (Cc Ds++H) w) (hr:fn.results=rs.toArray)
  (hd:E.d=Yz Ds) (h:∀ w',St c G H w'→Cj (Mv P E w') rs vs∧R (tup vs) w'):RtM P N fn R .ret E w:=by
 obtain ⟨w',h1,h2⟩:=St.marks Ds hs
 obtain ⟨h3,h4⟩:=h _ h2
 exact ⟨w',by rw [hd];exact h1,_,Kr hr h3,h4⟩
theorem rK {c:Ctx} {G:Ghost} {H:List Res} {P:Program} {N:Nat} {Ds:List Nat} {E:Env} {w:World} {fn:Func} {rs:List ResultVar} {vs:List Value} {R:Value→World→Prop} (hs:St c G (Cc Ds++H) w) (hr:fn.results=rs.toArray)
  (hd:E.d=Yz Ds) (h:∀ w',St c G H w'→Cj (Mv P E w') rs vs∧R (tup vs) w'):RtM P N fn R .normal E w:=Hf hs hr hd h
theorem St.swap {c:Ctx} {G:Ghost} {A B:List Res} {w:World} (h:St c G (A++B) w):St c G (B++A) w:=h.perm List.perm_append_comm
theorem St.marks0 {c:Ctx} {G:Ghost} {H:List Res} {w:World} (h:St c G H w):St c G (H++Cc []) w:=by
 rw [show Cc []=[] from rfl,List.append_nil];exact h
theorem St.mark {c:Ctx} {G:Ghost} {A:List Res} {D l:Nat} {o:Obj} {Ds:List Nat} {w:World} (h:St c G (.obj D (.deferred (some []))::.obj l o::(A++Cc Ds)) w):St c G (A++Cc (D::Ds)) w:=by
 have h2:=(h.front 1 rfl (H':=.obj l o::.obj D (.deferred (some []))::(A++Cc Ds)) rfl).drop
 exact h2.perm (by show (_::(A++Cc Ds)).Perm (A++_::Cc Ds);exact List.perm_middle.symm)
theorem Dm.of_TB {P:Program} {G:Ghost} {N l:Nat} {rec:Loop} {args:List Value} {ps:List Nat} {L:List (Nat×Value)} {H:List Res} {R:Value→Ghost→List Res→Prop}
  (hA:Ag N ⟨[],L⟩ { tmps:=rec.tmps,defers:=[] }) (hps:rec.params=ps.toArray) (hn:args.length=ps.length) (hN:∀ p∈ps,p<N) (hr:rec.state=.ready)
  (h:∀ w0,St ⟨w0,G,Bl (.obj l (.loop rec)::H)⟩ G (.obj l (.loop rec)::H) w0 →
   T ⟨P,N,some l⟩ rec.assign (nm fun E1 w1=>∃ G2 H2,St ⟨w0,G,Bl (.obj l (.loop rec)::H)⟩ G2 (.obj l (.loop rec)::H2) w1 ∧
    ∀ w2,St ⟨w0,G,Bl (.obj l (.loop rec)::H)⟩ G2 (.obj l (.loop { rec with state:=.busy })::H2) w2 →
     T ⟨P,N,some l⟩ rec.body (yx fun j _ w3=>∃ G3 H3,St ⟨w0,G,Bl (.obj l (.loop rec)::H)⟩ G3 (.obj l (.loop { rec with state:=.busy })::H3) w3 ∧
      R (.bool j.isNone) G3 (.obj l (.loop { rec with state:=if j.isNone then .ready else .done,pending:=j })::H3)) E1 w2)
    ⟨[],(ps.zip args).reverse++L⟩ w0):Dm P l args G (.obj l (.loop rec)::H) R:=by
 intro w hs
 have hl:w.heap[l]?=some (.loop rec):=hs.hold (.obj l (.loop rec)) Dr
 have hy:=run_yield (P:=P) (args:=args.toArray) hl (by rw [hps];simpa using hn)
 rw [hps] at hy
 refine ⟨_,_,_,_,hy,?_⟩
 refine roundIn_of_wpIn (by trivial) ?_
 have hAp:Ag N ⟨[],(ps.zip args).reverse++L⟩ { tmps:=(ps.zip args).foldl (fun t (p:Nat×Value)=>t.setIfInBounds p.1 p.2) rec.tmps,defers:=[] } :=
  Ag.params (ps.zip args) hA (fun p hp=>hN _ (List.of_mem_zip hp).1)
 have h1:=h w hs _ hAp
 have e1:(ps.toArray.zip args.toArray).foldl (fun tmps x=>match x with | (t,a)=>tmps.setIfInBounds t a) rec.tmps=(ps.zip args).foldl (fun t (p:Nat×Value)=>t.setIfInBounds p.1 p.2) rec.tmps:=by
  rw [List.zip_toArray,List.foldl_toArray]
 rw [e1]
 refine wpIn_mono h1 ?_
 rintro e a1 w1 ⟨E1,hE1,hq⟩
 cases e<;>try exact hq.elim
 obtain ⟨G2,H2,hs1,hb⟩:=hq
 have hl1:w1.heap[l]?=some (.loop rec):=hs1.hold (.obj l (.loop rec)) Dr
 have hlt1:=Dk hl1
 refine ⟨_,run_beginRound hl1 hr,?_⟩
 have hs2:St ⟨w,G,Bl (.obj l (.loop rec)::H)⟩ G2 (.obj l (.loop { rec with state:=.busy })::H2) (w1.putObj l (.loop { rec with state:=.busy })) :=
  hs1.write rfl rfl rfl Dr (fun k _ hk=>World.putObj_heap_other hk) (World.putObj_heap_same hlt1) (fun k hk=>.inl hk)
 refine wpIn_mono (hb _ hs2 a1 hE1) ?_
 have fin:∀ (j:Option Code) w3,(∃ G3 H3,St ⟨w,G,Bl (.obj l (.loop rec)::H)⟩ G3 (.obj l (.loop { rec with state:=.busy })::H3) w3 ∧
      R (.bool j.isNone) G3 (.obj l (.loop { rec with state:=if j.isNone then .ready else .done,pending:=j })::H3)) →
   ∃ v w',(Instr.endRound l j).run P w3=.ok v w'∧∃ v' G' H',Ending.returned v=.returned v'∧St ⟨w,G,Bl (.obj l (.loop rec)::H)⟩ G' H' w'∧R v' G' H':=by
  rintro j w3 ⟨G3,H3,hs3,hR⟩
  have hl3:w3.heap[l]?=some (.loop { rec with state:=.busy }):=hs3.hold (.obj l (.loop { rec with state:=.busy })) Dr
  refine ⟨_,_,run_endRound j hl3,.bool j.isNone,G3,_,rfl,?_,hR⟩
  exact hs3.write rfl rfl rfl Dr (fun k _ hk=>World.putObj_heap_other hk) (World.putObj_heap_same (Dk hl3)) (fun k hk=>.inl hk)
 rintro e a3 w3 ⟨E3,hE3,hq⟩
 cases e with
 | normal=>exact fin none w3 hq
 | ret=>exact fin (some .ret) w3 hq
 | exit id=>exact fin (some (.exit id)) w3 hq
 | _=>exact hq.elim
structure rL {α:Type} (P:Program) (kt:TypeId) (enc:α→Value):Prop where
 inj:∀ a b,enc a=enc b→a=b
 bits:∀ a,Instr.sameBits 10000 (enc a) (enc a)=true
 check:∀ em a w,(Instr.checkKey em 10000 kt (enc a)).run P w=.ok () w
 find:∀ (a:α) (es:List MapEntry),(∀ e∈es,∃ b,e.key=enc b) →
  ((∀ w,(Instr.findKey kt (enc a) es).run P w=.ok none w)∧∀ e∈es,e.key≠enc a)∨∃ (j:Nat) (e:MapEntry),es[j]?=some e∧(∀ w,(Instr.findKey kt (enc a) es).run P w=.ok (some (j,e.val)) w)∧e.key=enc a
theorem rL.asked {α:Type} [DecidableEq α] {P:Program} {kt:TypeId} {td:TypeDesc} {enc:α→Value} (hu:P.underlying kt=some td) (hinj:∀ a b,enc a=enc b→a=b) (hb:∀ a,Instr.sameBits 10000 (enc a) (enc a)=true) (hc:∀ em a w,(Instr.checkKey em 10000 kt (enc a)).run P w=.ok () w)
  (hn:∀ a b,Instr.sameNow td (enc a) (enc b)=none) (heq:∀ a b w,(Op.equal kt (enc a) (enc b)).run P w=.ok (decide (a=b)) w):rL P kt enc where
 inj:=hinj
 bits:=hb
 check:=hc
 find a es hes:=by
  have ask:∀ (es:List MapEntry) (i:Nat),(∀ e∈es,∃ b,e.key=enc b) →
    ((∀ w,(Instr.findAsking kt (enc a) es i).run P w=.ok none w)∧∀ e∈es,e.key≠enc a)∨∃ (j:Nat) (e:MapEntry),es[j]?=some e∧(∀ w,(Instr.findAsking kt (enc a) es i).run P w=.ok (some (i+j,e.val)) w)∧e.key=enc a:=by
   intro es
   induction es with
   | nil=>intro i _;exact .inl ⟨fun w=>by simp [Instr.findAsking],by simp⟩
   | cons e es ih =>
    intro i hk
    obtain ⟨b,hb⟩:=hk e Dr
    by_cases hab:a=b
    ·right
     refine ⟨0,e,rfl,fun w=>?_,by rw [hb,hab]⟩
     rw [Instr.findAsking,Sem.run_bind,hb,heq,decide_eq_true hab]
     simp
    ·have hne:e.key≠enc a:=fun he=>hab (hinj _ _ (he.symm.trans hb))
     rcases ih (i+1) (fun x hx=>hk x (by simp [hx])) with ⟨h1,h2⟩ | ⟨j,e',h1,h2,h3⟩
     ·left
      refine ⟨fun w=>?_,fun x hx=>?_⟩
      ·rw [Instr.findAsking,Sem.run_bind,hb,heq,decide_eq_false hab];simp [h1]
      ·rcases List.mem_cons.1 hx with rfl | hx
       ·exact hne
       ·exact h2 x hx
     ·right
      refine ⟨j+1,e',h1,fun w=>?_,h3⟩
      rw [Instr.findAsking,Sem.run_bind,hb,heq,decide_eq_false hab]
      simp [h2,show i+1+j=i+(j+1) from by omega]
  cases es with
  | nil=>exact .inl ⟨fun w=>by simp [Instr.findKey,run_underlying hu,Instr.findNow],by simp⟩
  | cons e es =>
   obtain ⟨b,hb⟩:=hes e Dr
   have h1:Instr.findNow td (enc a) (e::es) 0=none:=by rw [Instr.findNow,hb,hn]
   have hf:∀ w,(Instr.findKey kt (enc a) (e::es)).run P w=(Instr.findAsking kt (enc a) (e::es) 0).run P w:=fun w=>by
    simp only [Instr.findKey,Sem.run_bind,run_underlying hu,Result.andThen_ok,h1]
   simp only [hf]
   have:=ask (e::es) 0 hes
   simpa only [Nat.zero_add] using this
def Lo {α:Type} (enc:α→Value):Nat→List α→List MapEntry
 | _,[]=>[]
 | i,k::ks=>Ko (enc k) (.bool true) i::Lo enc (i+1) ks
def esT {α:Type} (enc:α→Value) (ks:List α):Array MapEntry:=(Lo enc 0 ks).toArray
theorem cY {α:Type} (enc:α→Value) (k:α):∀ (i:Nat) (ks:List α),Lo enc i (ks++[k])=Lo enc i ks++[Ko (enc k) (.bool true) (i+ks.length)]
 | i,[]=>by simp [Lo]
 | i,x::ks=>by rw [List.cons_append,Lo,cY enc k (i+1) ks,Lo,List.length_cons,show i+1+ks.length=i+(ks.length+1) by omega];rfl
theorem Mc {α:Type} {enc:α→Value}:∀ {i:Nat} {ks:List α} {j:Nat},(Lo enc i ks)[j]?=(ks[j]?).map fun k=>Ko (enc k) (.bool true) (i+j)
 | i,[],j=>by simp [Lo]
 | i,k::ks,0=>by simp [Lo]
 | i,k::ks,j+1=>by rw [Lo,List.getElem?_cons_succ,List.getElem?_cons_succ,Mc,show i+1+j=i+(j+1) by omega]
theorem Zb {α:Type} {enc:α→Value} {i:Nat} {ks:List α} {e:MapEntry} (h:e∈Lo enc i ks):∃ j k,ks[j]?=some k∧e=Ko (enc k) (.bool true) (i+j):=by
 obtain ⟨j,hj⟩:=List.mem_iff_getElem?.1 h
 rw [Mc] at hj
 cases hk:ks[j]? with
 | none=>rw [hk] at hj;cases hj
 | some k=>rw [hk] at hj;injection hj with hj;exact ⟨j,k,hk,hj.symm⟩
theorem cZ {α:Type} {enc:α→Value}:∀ {i:Nat} {ks:List α},((Lo enc i ks).map (·.born))=List.range' i ks.length
 | i,[]=>rfl
 | i,k::ks=>by rw [Lo,List.map_cons,cZ,List.length_cons,List.range'_succ];rfl
def Qn {α:Type} [DecidableEq α] (ks:List α) (a:α):List α:=if a∈ks then ks else ks++[a]
theorem uY {α:Type} [DecidableEq α] {ks:List α} {a x:α}:x∈Qn ks a↔x∈ks∨x=a:=by
 unfold Qn;split
 ·exact ⟨.inl,fun h=>h.elim id fun e=>e▸‹_›⟩
 ·simp
theorem lN {α:Type} [DecidableEq α] {ks:List α} {a:α} (h:ks.Nodup):(Qn ks a).Nodup:=by
 unfold Qn;split
 ·exact h
 ·rw [List.nodup_append]
  exact ⟨h,by simp,fun x hx y hy e=>by rw [List.mem_singleton.1 hy] at e;exact ‹¬ a∈ks› (e▸hx)⟩
def itT {α:Type} [DecidableEq α] (b:Nat) (ks done:List α):Obj:=.mapIter (some b) ks.length (done.map fun k=>Da k ks).toArray ks.length
section
variable {α:Type} [DecidableEq α] {enc:α→Value} {P:Program} {w:World} {t kt et:TypeId} {b:Nat} {ks:List α}
theorem uZ {a:α} (hu:P.underlying t=some (.map kt et)) (hk:rL P kt enc) (hb:w.heap[b]?=some (.map (esT enc ks) ks.length)) :
  (Instr.mapUpdate t (.map (some b)) (enc a) (.bool true)).run P w=.ok () (w.putObj b (.map (esT enc (Qn ks a)) (Qn ks a).length)):=by
 have hes:∀ e∈Lo enc 0 ks,∃ b,e.key=enc b:=fun e he=>by obtain ⟨_,k,_,rfl⟩:=Zb he;exact ⟨k,rfl⟩
 rcases hk.find a (Lo enc 0 ks) hes with ⟨hf,hn⟩ | ⟨j,e,hj,hf,he⟩
 ·have hm:¬ a∈ks:=fun hm=>by
   obtain ⟨j,hj⟩:=List.mem_iff_getElem?.1 hm
   have:(Lo enc 0 ks)[j]?=some (Ko (enc a) (.bool true) (0+j)):=by rw [Mc,hj];rfl
   exact hn _ (List.mem_of_getElem? this) rfl
  unfold Qn esT
  rw [if_neg hm,cY,List.length_append,List.length_singleton]
  simp [Instr.mapUpdate,run_underlying hu,MapKept.run_getObj_map hb,hk.check,esT,hf,MapKept.run_setObj_map _ hb,Result.andThen,World.putObj,Ko]
 ·have hm:a∈ks:=by
   rw [Mc] at hj
   cases hk2:ks[j]? with
   | none=>rw [hk2] at hj;cases hj
   | some k=>rw [hk2] at hj;injection hj with hj;subst hj;rw [← hk.inj _ _ he];exact List.mem_of_getElem? hk2
  have hj2:(esT enc ks)[j]?=some e:=by unfold esT;rw [List.getElem?_toArray];exact hj
  have hmod:(esT enc ks).modify j (fun e'=>{ key:=enc a,val:=.bool true,born:=e'.born })=esT enc ks:=by
   apply Array.ext_getElem?
   intro i
   rw [Array.getElem?_modify]
   split
   ·rename_i hij
    subst hij
    rw [hj2]
    rw [Mc] at hj
    cases hk2:ks[j]? with
    | none=>rw [hk2] at hj;cases hj
    | some k =>
     rw [hk2] at hj;injection hj with hj;subst hj
     have he':enc k=enc a:=he
     show some (Ko (enc a) (.bool true) (0+j))=some (Ko (enc k) (.bool true) (0+j))
     rw [he']
   ·rfl
  have hf':(Instr.findKey kt (enc a) (esT enc ks).toList).run P w=.ok (some (j,e.val)) w:=hf w
  unfold Qn
  rw [if_pos hm]
  simp [Instr.mapUpdate,run_underlying hu,MapKept.run_getObj_map hb,hk.check,hf',hj2,he,Instr.keyThatStays,hk.bits,hmod,MapKept.run_setObj_map _ hb,Result.andThen,World.putObj]
end
section
variable {x:Cx} {Q:Exit→Env→World→Prop} {E:Env} {d:Option Tmp} {ty:TypeId} {pos:String} {aft:Array Edge} {g:Option (Nat×Bool)} {c:Ctx} {G:Ghost} {H:List Res}
theorem S_putT {α:Type} [DecidableEq α] {enc:α→Value} {K:Value→World→Prop} {w:World} {t kt et:TypeId} {m kx vx:Operand} {b:Nat} {ks:List α} {a:α} (hs:St c G (.obj b (.map (esT enc ks) ks.length)::H) w) (hu:x.P.underlying t=some (.map kt et)) (hk:rL x.P kt enc)
  (h1:ev E m=some (.map (some b))) (h2:ev E kx=some (enc a)) (h3:ev E vx=some (.bool true))
  (k:∀ w',St c G (.obj b (.map (esT enc (Qn ks a)) (Qn ks a).length)::H) w'→K undef w'):S x ⟨d,.mapUpdate t m kx vx,ty,pos,aft,g⟩ Q K E w:=by
 have hb:w.heap[b]?=some (.map (esT enc ks) ks.length):=hs.hold (.obj b _) Dr
 have hr:=uZ (a:=a) hu hk hb
 refine Xj rfl fun a' ha=>⟨w.putObj b (.map (esT enc (Qn ks a)) (Qn ks a).length),?_,k _ (hs.write rfl rfl rfl Dr (fun k _ hk=>World.putObj_heap_other hk) (World.putObj_heap_same (Dk hb)) (fun k hk=>.inl hk))⟩
 simp only [execOp,ha.ev h1,ha.ev h2,ha.ev h3]
 simp [hr]
theorem St.fixMap {b:Nat} {o:Obj} {w:World} (hs:St c G (.obj b o::H) w) (hM:∀ k,(Res.obj b o).foot k→¬ c.M k):∃ G',G.le G'∧G' b=some o∧St c G' H w:=by
 obtain ⟨G',h1,h2,h3⟩:=hs.freeze hM
 exact ⟨G',h1,(h2 b rfl).trans (hs.hold (.obj b o) Dr),h3⟩
theorem vA {α:Type} [DecidableEq α] {enc:α→Value} {K:Value→World→Prop} {w:World} {t kt et:TypeId} {m:Operand} {b:Nat} {ks:List α} (hs:St c G H w) (hg:G b=some (.map (esT enc ks) ks.length)) (hu:x.P.underlying t=some (.map kt et)) (h1:ev E m=some (.map (some b)))
  (k:∀ r w',St c G (.obj r (itT b ks [])::H) w'→K (.pointer (some ⟨r,0,none⟩)) w'):S x ⟨d,.range t m,ty,pos,aft,g⟩ Q K E w:=by
 have hb:=hs.ghost _ _ hg
 refine Jm rfl fun a ha=>⟨_,_,?_,k w.heap.size (w.alloc (itT b ks [])) (hs.alloc _ ?_ (fun k hk=>hk))⟩
 ·simp only [execOp,ha.ev h1]
  rw [Sem.run_bind,run_range_map w t kt et b _ _ hu hb];rfl
 ·show (w.alloc _).heap[w.heap.size]?=_
  rw [heap_alloc_new]
theorem S_nextT {α:Type} [DecidableEq α] {enc:α→Value} {K:Value→World→Prop} {w:World} {m:Operand} {b r:Nat} {ks done:List α} (hs:St c G (.obj r (itT b ks done)::H) w) (hg:G b=some (.map (esT enc ks) ks.length)) (hnd:ks.Nodup) (hd:done.Nodup) (hsub:∀ a∈done,a∈ks) (h1:ev E m=some (.pointer (some ⟨r,0,none⟩)))
  (kn:(∀ a∈ks,a∈done)→∀ w',St c G (.obj r (itT b ks done)::H) w'→K (.tuple #[.bool false]) w')
  (ky:∀ a,a∈ks→¬ a∈done→∀ w',St c G (.obj r (itT b ks (done++[a]))::H) w'→K (.tuple #[.bool true,enc a,.bool true]) w'):S x ⟨d,.next m false,ty,pos,aft,g⟩ Q K E w:=by
 have hb:=hs.ghost _ _ hg
 have hr:w.heap[r]?=some (itT b ks done):=hs.hold (.obj r _) Dr
 have hborn:∀ e∈(esT enc ks).toList,e.born<ks.length:=fun e he=>by
  obtain ⟨j,k,hj,rfl⟩:=Zb he
  have:=(List.getElem?_eq_some_iff.1 hj).1
  show 0+j<_;omega
 have hpos:∀ {j:Nat} {k:α},ks[j]?=some k→Da k ks=j:=fun {j k} hj=>by
  obtain ⟨hl,rfl⟩:=List.getElem?_eq_some_iff.1 hj
  have hp:Da ks[j] ks<ks.length:=Fy.2 (List.getElem_mem hl)
  exact (List.getElem_inj hnd).1 (Kd hp)
 have hseen:∀ {j:Nat} {k:α},ks[j]?=some k→((done.map fun k=>Da k ks).toArray.contains j=true↔k∈done):=fun {j k} hj=>by
  rw [List.contains_toArray,List.contains_iff_mem,List.mem_map]
  constructor
  ·rintro ⟨a,ha,he⟩
   have hp:Da a ks<ks.length:=Fy.2 (hsub a ha)
   have h2:ks[Da a ks]?=some a:=by rw [List.getElem?_eq_getElem hp,Kd hp]
   rw [he,hj] at h2;injection h2 with h2;rw [h2];exact ha
  ·intro hk;exact ⟨k,hk,hpos hj⟩
 rcases run_next_at (P:=x.P) w ty r b ks.length ks.length (done.map fun k=>Da k ks).toArray (esT enc ks) ks.length hr hb hborn (Nat.le_refl _) with ⟨h0,hrun⟩ | ⟨e,he,w1,hal,hrun⟩
 ·refine Jm rfl fun a ha=>⟨_,w,?_,kn (fun k hk=>?_) w hs⟩
  ·simp only [execOp,ha.ev h1]
   rw [Sem.run_bind,hrun];rfl
  ·obtain ⟨j,hj⟩:=List.mem_iff_getElem?.1 hk
   rw [← hseen hj]
   have hem:Ko (enc k) (.bool true) (0+j)∈esT enc ks:=by
    unfold esT;rw [List.mem_toArray];exact List.mem_of_getElem? (by rw [Mc,hj];rfl)
   have:=Array.size_eq_zero_iff.1 h0
   unfold leftOf at this
   rw [Array.filter_eq_empty_iff] at this
   have:=this _ hem
   simpa [Ko] using this
 ·unfold leftOf at he
  rw [Array.mem_toList_iff,Array.mem_filter] at he
  obtain ⟨he,hs2⟩:=he
  obtain ⟨j,k,hj,rfl⟩:=Zb (by simpa [esT] using he:e∈Lo enc 0 ks)
  have hk:k∈ks:=List.mem_of_getElem? hj
  have hnd2:¬ k∈done:=by
   rw [← hseen hj];simpa [Ko] using hs2
  have hs1:St c G (.obj r (itT b ks done)::H) w1:=by
   rcases hal with rfl | rfl
   ·exact hs
   ·exact hs.drew
  have hr1:w1.heap[r]?=some (itT b ks done):=hs1.hold (.obj r _) Dr
  refine Jm rfl fun a ha=>⟨_,_,?_,ky k hk hnd2 (ChangeMaps.setBlock w1 r (itT b ks (done++[k]))) (hs1.write rfl rfl rfl ?_ ?_ ?_ (fun k hk=>.inl hk))⟩
  ·simp only [execOp,ha.ev h1]
   rw [Sem.run_bind,hrun]
   have:((done.map fun k=>Da k ks).toArray.push (0+j))=((done++[k]).map fun k=>Da k ks).toArray:=by
    rw [List.map_append,List.map_cons,List.map_nil,hpos hj,Nat.zero_add];simp
   show Result.ok _ _=_
   unfold itT
   rw [← this];rfl
  ·simp [ChangeMaps.setBlock]
  ·intro k' hk' hk2
   have:k'≠r:=fun h=>hk2 h
   simp [ChangeMaps.setBlock,Array.getElem?_setIfInBounds,Ne.symm this]
  ·show (ChangeMaps.setBlock w1 r _).heap[r]?=_
   simp [ChangeMaps.setBlock,Dk hr1]
theorem vB {α:Type} [DecidableEq α] {enc:α→Value} {K:Value→Prop} {m:Operand} {b r:Nat} {ks done:List α} {a:α} (i:Nat) (hi:H[i]?=some (.obj r (itT b ks (done++[a])))) (hg:G b=some (.map (esT enc ks) ks.length)) (hm:a∈ks) (h1:ev E m=some (.pointer (some ⟨r,0,none⟩)))
  (k:K (.tuple #[enc a,.bool true])):Y x (St c G H) ⟨d,.entry m,ty,pos,aft,g⟩ E K:=by
 refine De (v:=.tuple #[enc a,.bool true]) (fun a' ha w hw=>?_) k
 have hb:=hw.ghost _ _ hg
 have hr:w.heap[r]?=some (itT b ks (done++[a])):=hw.hold _ (List.mem_of_getElem? hi)
 have hp:Da a ks<ks.length:=Fy.2 hm
 have he:Ko (enc a) (.bool true) (Da a ks)∈(esT enc ks).toList :=
  List.mem_of_getElem? (i:=Da a ks) (by show (Lo enc 0 ks)[_]?=_;rw [Mc,List.getElem?_eq_getElem hp,Kd hp,Nat.zero_add];rfl)
 have hr2:w.heap[r]?=some (.mapIter (some b) ks.length ((done.map fun k=>Da k ks).toArray.push (Ko (enc a) (.bool true) (Da a ks)).born) ks.length):=by
  rw [hr];unfold itT;rw [List.map_append];simp [Ko]
 have hn:((esT enc ks).toList.map (·.born)).Nodup:=by
  show ((Lo enc 0 ks).map (·.born)).Nodup
  rw [cZ];exact List.nodup_range'
 have:=run_entry_at (P:=x.P) w r b ks.length _ (esT enc ks) ks.length (Ko (enc a) (.bool true) (Da a ks)) hr2 hb he hn
 simp only [execOp,ha.ev h1]
 rw [Sem.run_bind,this];rfl
end
end Go.Ex
namespace Go.Ex
open Go Go.RowKit Go.ChangeShapes Go.WideShapes Go.ChangeAt
section
variable {H:Type} {enc:TypeId×Value→H} {P:Program}
theorem vC {W:World} {v:Value} {t e:TypeId} {fuel:Nat} {x:DataW H×List MemPlace} (ht:P.underlying t=some (.slice e)) (he:P.underlying e=some (.int .u16)) (hc:P.cellsOf e=1)
  (h:DataW.trod enc P W 0 (fun _=>true) true fuel t [v]=some x):∃ l:List Nat,Sl (Ex.whole W) v 1 l.length (l.map fun x:Nat=>.int .u16 (x:Int)):=by
 obtain ⟨zs,hw,hs⟩:=gU ht he hc h
 refine ⟨zs.map Int.toNat,?_⟩
 rw [List.length_map,List.map_map]
 have e:zs.map (.int .u16)=zs.map ((fun x:Nat=>Value.int .u16 (x:Int)) ∘ Int.toNat):=List.map_congr_left fun z hz=>by
  obtain ⟨y,_,rfl⟩:=We (hw z hz)
  show Value.int .u16 (y:Int)=.int .u16 (((y:Int).toNat:Nat):Int)
  rw [Int.toNat_natCast]
 rw [← e];exact hs
structure Raw31Ty (P:Program) (t:TypeId) where
 f:Fin 3→Field
 R:RawTy P (f 0).type
 e1:TypeId
 e2:TypeId
 ht:P.underlying t=some (.struct #[f 0,f 1,f 2])
 ct:P.cellsOf t=16
 off:(f 0).offset=0∧(f 1).offset=14∧(f 2).offset=15
 cel:P.cellsOf (f 1).type=1∧P.cellsOf (f 2).type=1
 und:P.underlying (f 1).type=some (.slice e1)∧P.underlying (f 2).type=some (.slice e2)
 el:P.underlying e1=some (.int .u8)∧P.underlying e2=some (.int .u16)
 ce:P.cellsOf e1=1∧P.cellsOf e2=1
theorem raw31_val {W:World} {t:TypeId} {r:Reach} {b0:Nat} {v:Value} {fuel:Nat} {x:DataW H×List MemPlace} (T:Raw31Ty P t) (hv:Value.okWide P W r b0 t v) (h:DataW.trod enc P W 0 (fun _=>true) true fuel t v.cells.toList=some x) :
  ∃ (sz p0 p1 p2 p3 n0 n1 n2 n3 n4:UInt8) (ed r0 r1 r2:Nat) (vw vq:Value) (nw:List UInt8) (sf:List Nat),ed<4294967296∧r0<65536∧r1<65536∧r2<65536∧Cv (Ex.whole W) vw nw∧Sl (Ex.whole W) vq 1 sf.length (sf.map fun x:Nat=>.int .u16 (x:Int)) ∧
   v=.agg #[.int .u8 (sz.toNat:Int),.int .u8 (p0.toNat:Int),.int .u8 (p1.toNat:Int),.int .u8 (p2.toNat:Int),.int .u8 (p3.toNat:Int),.int .u8 (n0.toNat:Int),.int .u8 (n1.toNat:Int),.int .u8 (n2.toNat:Int),.int .u8 (n3.toNat:Int),.int .u8 (n4.toNat:Int),.int .u32 (ed:Int),.int .u16 (r0:Int),.int .u16 (r1:Int),.int .u16 (r2:Int),vw,vq]:=by
 obtain ⟨f,R,e1,e2,ht,ct,⟨o0,o1,o2⟩,⟨c1,c2⟩,⟨u1,u2⟩,⟨l1,l2⟩,⟨d1,d2⟩⟩:=T
 have hagg:∃ cs,v=.agg cs:=by
  simp only [Value.okWide,ht] at hv
  cases v<;>simp_all
 obtain ⟨⟨ls⟩,rfl⟩:=hagg
 obtain ⟨xs,m,_,_,hl,hxl,hf⟩:=DataW.trod_struct ht h
 have hl2:ls.length=16:=hl.trans ct
 have hx:xs.length=3:=hxl
 have g0:=hf 0 (f 0) rfl
 have g1:=hf 1 (f 1) rfl
 have g2:=hf 2 (f 2) rfl
 rw [o0,R.ct] at g0;rw [o1,c1] at g1;rw [o2,c2] at g2
 obtain ⟨sz,p0,p1,p2,p3,n0,n1,n2,n3,n4,ed,r0,r1,r2,h1,h2,h3,h4,e⟩:=rJ R (ls:=(ls.drop 0).take 14) (x:=xs[0]'Dz) (by rw [← List.getElem?_eq_getElem];exact g0)
 have g1':DataW.trod enc P W 0 (fun _=>true) true m (f 1).type [ls[14]'Dz]=some (xs[1]'Dz):=by rw [← Rv Dz,← List.getElem?_eq_getElem];exact g1
 have g2':DataW.trod enc P W 0 (fun _=>true) true m (f 2).type [ls[15]'Dz]=some (xs[2]'Dz):=by rw [← Rv Dz,← List.getElem?_eq_getElem];exact g2
 obtain ⟨nw,hnw⟩:=qZ u1 l1 d1 g1'
 obtain ⟨sf,hsf⟩:=vC u2 l2 d2 g2'
 refine ⟨sz,p0,p1,p2,p3,n0,n1,n2,n3,n4,ed,r0,r1,r2,_,_,nw,sf,h1,h2,h3,h4,hnw,hsf,?_⟩
 have el:ls=(ls.drop 0).take 14++[ls[14]'Dz,ls[15]'Dz]:=by
  rw [List.drop_zero]
  conv=>lhs;rw [← List.take_append_drop 14 ls]
  rw [List.drop_eq_getElem_cons Dz,List.drop_eq_getElem_cons (show 14+1<ls.length by omega),List.drop_eq_nil_of_le Dz]
 rw [e] at el
 conv=>lhs;rw [el]
 rfl
end
end Go.Ex
namespace Go.Proofs.YtngdgnolkilheaaGreatDoor
open Go Go.Ex
theorem bY (l:List UInt8) (k:Nat) (h:k<l.length):(l.take (k+1)).map Kc=(l.take k).map Kc++[.int .u8 (l[k].toNat:Int)]:=by
 rw [List.take_add_one,List.getElem?_eq_getElem h,List.map_append];rfl
theorem Dc {α β:Type} (f:β→α→β) (z:β) (l:List α) (k:Nat) (h:k<l.length):(l.take (k+1)).foldl f z=f ((l.take k).foldl f z) l[k]:=by
 rw [List.take_add_one,List.getElem?_eq_getElem h,List.foldl_append];rfl
structure kO where
 kind:Int
 old:List UInt8
 new:List UInt8
def OpR (G:Ghost) (v:Value) (o:kO):Prop:=∃ u1 u2,v=.agg #[.int .i64 o.kind,u1,u2]∧Cv G u1 o.old∧Cv G u2 o.new
def Gr (k:Int):Option (Nat×Nat×Nat) :=
 if k=1∨k=2∨k=3∨k=4 then some (0,0,0)
 else if k=5∨k=6 then some (1,4,4)
 else if k=7 then some (1,8,0)
 else if k=8 then some (1,1,0) else none
def Ki (o:kO):Bool :=
 match Gr o.kind with
 | none=>false
 | some (l,m,f)=>decide (l≤o.old.length∧o.old.length≤m∧o.new.length≤f)
theorem vD {o:kO} {l m f:Nat} (h:Gr o.kind=some (l,m,f)) (h2:l≤o.old.length∧o.old.length≤m∧o.new.length≤f):Ki o=true:=by
 unfold Ki;rw [h];simpa using h2
theorem Zc {o:kO} {l m f:Nat} (h:Gr o.kind=some (l,m,f)) (h2:¬ (l≤o.old.length∧o.old.length≤m∧o.new.length≤f)):¬ Ki o=true:=by
 unfold Ki;rw [h];simpa using h2
theorem vE {o:kO} (h:Gr o.kind=none):¬ Ki o=true:=by
 unfold Ki;rw [h];simp
def tV (k:Int):Value :=
 match Gr k with
 | none=>.tuple #[.int .i64 0,.int .i64 0,.int .i64 0,.bool false]
 | some (l,m,f)=>.tuple #[.int .i64 (l:Int),.int .i64 (m:Int),.int .i64 (f:Int),.bool true]
def tab64:List Nat:=[0,1,56,2,57,49,28,3,61,58,42,50,38,29,17,4,62,47,59,36,45,43,51,22,53,39,33,30,24,18,12,5,63,55,48,27,60,41,37,16,46,35,44,21,52,32,23,11,54,26,40,15,34,20,31,10,25,14,19,9,13,8,7,6]
def Tab (G:Ghost):Prop:=∀ i,i<64→Ft G ⟨0,i,none⟩=some (.int .u8 ((tab64.getD i 0:Nat):Int))
theorem Tab.mono {G G':Ghost} (h:G.le G') (ht:Tab G):Tab G':=fun i hi=>Kb h (ht i hi)
theorem vF (i:Nat):tab64.getD i 0≤63:=by
 rcases Nat.lt_or_ge i 64 with h | h
 ·exact (by decide:∀ i<64,tab64.getD i 0≤63) i h
 ·rw [List.getD_eq_getElem?_getD,List.getElem?_eq_none (by exact h)];decide
def tzI (x:Nat):Nat:=nW (Ei x (Lj 0 x)) 285870213051353865 / 2 ^ 58
theorem vG (x:Nat):tzI x<64:=by
 unfold tzI nW W64;omega
def rM (x:Nat):Nat:=if x=0 then 64 else tab64.getD (tzI x) 0
theorem vH (x:Nat):rM x≤64:=by
 unfold rM;split
 ·omega
 ·have:=vF (tzI x);omega
def pop1 (x:Nat):Nat:=cP (Ei (x / 2 ^ 1) 6148914691236517205) (Ei x 6148914691236517205)
def pop2 (x:Nat):Nat:=cP (Ei (x / 2 ^ 2) 3689348814741910323) (Ei x 3689348814741910323)
def pop3 (x:Nat):Nat:=Ei (cP (x / 2 ^ 4) x) 1085102592571150095
def Qo (k x:Nat):Nat:=cP x (x / 2 ^ k)
def rN (x:Nat):Nat:=Qo 32 (Qo 16 (Qo 8 (pop3 (pop2 (pop1 x)))))
def lO (x:Nat):Nat:=Ei (rN x) 127
theorem Rw (a b:Nat):Ei a b≤b:=Nat.le_trans Nat.and_le_right (Nat.mod_le _ _)
theorem pop6_lt (x:Nat):rN x<9223372036854775808:=by
 unfold rN
 have h3:pop3 (pop2 (pop1 x))≤1085102592571150095:=Rw _ _
 generalize pop3 (pop2 (pop1 x))=y at *
 have h4:Qo 8 y≤y+y / 256:=Nat.mod_le _ _
 have h5:Qo 16 (Qo 8 y)≤Qo 8 y+Qo 8 y / 65536:=Nat.mod_le _ _
 have h6:Qo 32 (Qo 16 (Qo 8 y))≤Qo 16 (Qo 8 y)+Qo 16 (Qo 8 y) / 4294967296:=Nat.mod_le _ _
 omega
theorem oH (x:Nat):lO x≤127:=Rw _ _
theorem and127 (n:Nat):Px .and .i64 (n:Int) 127=((Ei n 127:Nat):Int):=by
 show IntKind.i64.wrap ((BitVec.ofInt 64 (n:Int) &&& BitVec.ofInt 64 ((127:Nat):Int)).toNat:Int)=_
 rw [BitVec.toNat_and,Ir,Ir]
 have h:=Rw n 127
 unfold Ei at *
 rw [Gw Dz]
def Mx (c:List Nat):Nat:=c.foldl (fun s w=>s+lO w) 0
theorem lP (c:List Nat) (k:Nat) (h:k<c.length):Mx (c.take (k+1))=Mx (c.take k)+lO c[k]:=by
 unfold Mx;rw [List.take_add_one,List.getElem?_eq_getElem h,List.foldl_append];rfl
theorem vI:∀ (c:List Nat),Mx c≤127*c.length:=by
 have key:∀ (c:List Nat) (s:Nat),c.foldl (fun s w=>s+lO w) s≤s+127*c.length:=by
  intro c
  induction c with
  | nil=>simp
  | cons w t ih=>intro s;have:=ih (s+lO w);have:=oH w;simp only [List.foldl_cons,List.length_cons];omega
 intro c;have:=key c 0;unfold Mx;omega
def Ig (c:List Nat) (x:UInt8):List Nat:=c.set (x.toNat / 64) (Xv (c.getD (x.toNat / 64) 0) (2 ^ (x.toNat % 64)))
theorem vJ (c:List Nat) (x:UInt8):(Ig c x).length=c.length:=by simp [Ig]
def kP (l:List UInt8):List Nat:=l.foldl Ig [0,0,0,0]
theorem Me (l:List UInt8):(kP l).length=4:=by
 have key:∀ (l:List UInt8) (c:List Nat),(l.foldl Ig c).length=c.length:=by
  intro l
  induction l with
  | nil=>simp
  | cons x t ih=>intro c;rw [List.foldl_cons,ih,vJ]
 exact key l _
def Je (c:List Nat):List Nat:=List.zipWith (fun x _=>Mw 18446744073709551615 x) c c
def Gz (a b:List Nat):List Nat:=List.zipWith Ei a b
def Fz (a b:List Nat):List Nat:=List.zipWith Xv a b
def Vv (c:List Nat) (x:UInt8):Bool:=decide (Ei (c.getD (x.toNat / 64) 0) (2 ^ (x.toNat % 64))≠0)
theorem eN (c:List Nat) (k:Nat) (h:k<c.length):(c.map Af)[k]?=some (Af c[k]):=by
 rw [List.getElem?_map,List.getElem?_eq_getElem h];rfl
theorem vK (op:Nat→Nat→Nat) (a b:List Nat) (k:Nat) (h:k<a.length) (h2:k<b.length) (h3:k<4) :
  (((List.zipWith op a b).take k++List.replicate (4-k) 0).map Af).set k (Af (op a[k] b[k]))=((List.zipWith op a b).take (k+1)++List.replicate (4-(k+1)) 0).map Af:=by
 obtain ⟨j,hj⟩:∃ j,4-k=j+1:=⟨4-k-1,by omega⟩
 have hl:((List.zipWith op a b).take k).length=k:=by rw [List.length_take,List.length_zipWith];omega
 rw [← List.map_set,List.set_append_right _ _ Dz,hl,Nat.sub_self,hj,show 4-(k+1)=j by omega,List.replicate_succ,List.set_cons_zero,List.take_add_one,List.getElem?_eq_getElem (by rw [List.length_zipWith];omega)]
 simp
theorem Jf (n:Nat):IntKind.u8.wrap (n:Int)=((UInt8.ofNat n).toNat:Int):=by
 rw [IntKind.wrap_u8];simp
theorem has_iff (c:List Nat) (x:UInt8):Il .neq ((Ei (c.getD (x.toNat / 64) 0) (2 ^ (x.toNat % 64)):Nat):Int) 0↔Vv c x=true:=by
 unfold Vv;rw [decide_eq_true_iff];show _≠_↔_;omega
theorem Zd {c:List Nat} (h:c.length=4):(Je c).length=4:=by unfold Je;rw [List.length_zipWith];omega
theorem Mf {a b:List Nat} (h:a.length=4) (h2:b.length=4):(Gz a b).length=4:=by unfold Gz;rw [List.length_zipWith];omega
theorem Mh {a b:List Nat} (h:a.length=4) (h2:b.length=4):(Fz a b).length=4:=by unfold Fz;rw [List.length_zipWith];omega
def Vw (i:Nat):Nat→Nat→List UInt8
 | 0,_=>[]
 | f+1,w=>if w=0 then [] else UInt8.ofNat (64*i+rM w)::Vw i f (Ei w (Lj w 1))
def La:Nat→List Nat→List UInt8
 | _,[]=>[]
 | i,w::t=>Vw i w w++La (i+1) t
def Bu (c:List Nat):List UInt8:=La 0 c
theorem Wg {w:Nat} (h0:w≠0) (h:w<W64):Lj w 1=w-1:=by
 unfold Lj
 show (w+(W64-1 % W64)) % W64=w-1
 rw [show w+(W64 - 1 % W64)=(w - 1)+W64 by unfold W64 at *;omega,Nat.add_mod_right,Nat.mod_eq_of_lt Dz]
theorem rO {w j:Nat} (h0:w≠0) (hd:2 ^ j ∣ w):2 ^ (j+1) ∣ w &&& (w-1):=by
 rw [Nat.dvd_iff_mod_eq_zero,Nat.and_mod_two_pow]
 obtain ⟨m,rfl⟩:=hd
 have hp:0<2 ^ j:=Nat.pow_pos (by decide)
 rcases Nat.mod_two_eq_zero_or_one m with h | h
 ·obtain ⟨q,rfl⟩:∃ q,m=2*q:=⟨m / 2,by omega⟩
  rw [show 2 ^ j*(2*q)=2 ^ (j+1)*q by rw [Nat.pow_succ,Nat.mul_assoc],Nat.mul_mod_right,Nat.zero_and]
 ·obtain ⟨q,rfl⟩:∃ q,m=2*q+1:=⟨m / 2,by omega⟩
  have e1:2 ^ j*(2*q+1)=2 ^ (j+1)*q+2 ^ j:=by rw [Nat.mul_add,Nat.mul_one,Nat.pow_succ,Nat.mul_assoc]
  have e2:2 ^ j*(2*q+1)-1=2 ^ (j+1)*q+(2 ^ j-1):=by rw [e1];omega
  have hlt:2 ^ j<2 ^ (j+1):=by rw [Nat.pow_succ];omega
  rw [e2,e1,Nat.mul_add_mod,Nat.mul_add_mod,Nat.mod_eq_of_lt hlt,Nat.mod_eq_of_lt (by omega:2 ^ j-1<2 ^ (j+1)),Nat.and_two_pow_sub_one_eq_mod,Nat.mod_self]
theorem iK (i:Nat):∀ (f w j:Nat),w<W64→j≤64→2 ^ j ∣ w→(Vw i f w).length≤64-j
 | 0,_,_,_,_,_=>by simp [Vw]
 | f+1,w,j,hw,hj,hd=>by
  rw [Vw]
  by_cases h0:w=0
  ·rw [if_pos h0];simp
  ·rw [if_neg h0,List.length_cons]
   have hj2:j≠64:=fun h=>by
    subst h
    have:=Nat.le_of_dvd (Nat.pos_of_ne_zero h0) hd
    unfold W64 at hw;omega
   have e:Ei w (Lj w 1)=w &&& (w-1):=by
    rw [Wg h0 hw];unfold Ei;rw [Nat.mod_eq_of_lt hw,Nat.mod_eq_of_lt Dz]
   have:=iK i f (Ei w (Lj w 1)) (j+1) (Nv _ _) Dz (by rw [e];exact rO h0 hd)
   omega
theorem Zh:∀ (c:List Nat) (i:Nat),(∀ w∈c,w<W64)→(La i c).length≤64*c.length
 | [],_,_=>by simp [La]
 | w::t,i,h=>by
  have h1:=iK i w w 0 (h w Dr) Dz Dr
  have h2:=Zh t (i+1) fun x hx=>h x (by simp [hx])
  simp only [La,List.length_append,List.length_cons];omega
theorem Zi {c:List Nat} (h:c.length=4) (hw:∀ w∈c,w<W64):(Bu c).length≤256:=by
 have:=Zh c 0 hw;unfold Bu;omega
theorem vL {L rest:List UInt8} {n:Nat} {a:UInt8} (h:L.drop n=a::rest):∃ hn:n<L.length,L[n]=a∧L.drop (n+1)=rest:=by
 have hn:n<L.length:=by
  rcases Nat.lt_or_ge n L.length with h' | h'
  ·exact h'
  ·rw [List.drop_eq_nil_of_le h'] at h;cases h
 rw [List.drop_eq_getElem_cons hn] at h
 injection h with h1 h2
 exact ⟨hn,h1,h2⟩
def Qa (G:Ghost) (b:Nat) (c:List Nat):Prop:=∀ (i:Nat) (v:Value),(c.map Af)[i]?=some v→Ft G ⟨b,i,none⟩=some v
theorem Qa.mono {G G':Ghost} (h:G.le G') {b:Nat} {c:List Nat} (hc:Qa G b c):Qa G' b c:=fun i v hv=>Kb h (hc i v hv)
theorem Qa.whole {G:Ghost} {b:Nat} {c:List Nat} (hc:Qa G b c):∀ (j:Nat) (u:Value),(c.map Af)[j]?=some u→Ft G ((⟨b,0,none⟩:Addr).add j)=some u:=fun j u hj=>by
 have hadd:((⟨b,0,none⟩:Addr).add j)=⟨b,j,none⟩:=by
  unfold Addr.add;split
  ·rename_i h0;simp [h0]
  ·simp
 rw [hadd];exact hc j u hj
theorem dA (i f:Nat):Vw i f 0=[]:=by cases f<;>simp [Vw]
structure My where
 cls:List (List Nat)
 next:List (List Nat)
 acc:List Bool
structure Tb where
 cell:List Nat
 cells:Nat
 next:List (List Nat)
 acc:List Bool
def Tb.to (t:Tb) (s c:Nat):Nat:=(t.next.getD s []).getD c 0
abbrev Rch:=List Bool×List Nat
def Vx (st:Rch) (x:Nat):Rch:=if st.1.getD x false=true then st else (st.1.set x true,st.2++[x])
def Zj (t:Tb):Nat→Nat→Rch→Option (List Nat)
 | 0,_,_=>none
 | f+1,i,st=>if i<st.2.length then Zj t f (i+1) ((t.next.getD (st.2.getD i 0) []).foldl Vx st) else some st.2
def Zo (t:Tb):Option (List Nat):=Zj t (t.next.length+1) 0 ((List.replicate t.next.length false).set 0 true,[0])
def two (x:Nat):List UInt8:=[UInt8.ofNat x,UInt8.ofNat (x / 256)]
def Ue (t:Tb) (b:List Nat) (s:Nat):List UInt8:=two (b.getD s 0)++(t.next.getD s []).flatMap fun x=>two (b.getD x 0)
structure Rf where
 keys:List (List UInt8)
 next:List Nat
 reps:List Nat
def tW (t:Tb) (b:List Nat) (st:Rf) (s:Nat):Rf :=
 let k:=Ue t b s
 let i:=Da k st.keys
 if i<st.keys.length then ⟨st.keys,st.next.set s i,st.reps⟩ else ⟨st.keys++[k],st.next.set s st.reps.length,st.reps++[s]⟩
def rfR (t:Tb) (l b:List Nat):Rf:=l.foldl (tW t b) ⟨[],List.replicate b.length 0,[]⟩
def vM (t:Tb) (l:List Nat):Nat→List Nat→Nat→Option (List Nat×List Nat)
 | 0,_,_=>none
 | f+1,b,c=>let r:=rfR t l b;if r.reps.length=c then some (r.next,r.reps) else vM t l f r.next r.reps.length
def rfB (t:Tb) (l:List Nat):List Nat:=l.foldl (fun b s=>if t.acc.getD s false=true then b.set s 1 else b) (List.replicate t.next.length 0)
def Ry (t:Tb) (l:List Nat):Option (List Nat×List Nat):=vM t l 100 (rfB t l) 0
structure Mg where
 keys:List (List UInt8)
 cells:List Nat
 cls:List (List Nat)
 of:List Int
def kQ (t:Tb) (b r:List Nat) (c:Nat):List UInt8:=r.flatMap fun s=>two (b.getD (t.to s c) 0)
def oI (t:Tb) (b r:List Nat) (st:Mg) (c:Nat):Mg :=
 let k:=kQ t b r c
 let i:=Da k st.keys
 if i<st.keys.length then { st with of:=st.of.set c (i:Int) } else ⟨st.keys++[k],st.cells++[c],st.cls++[[0,0,0,0]],st.of.set c (st.cells.length:Int)⟩
def rP (t:Tb) (b r:List Nat) (st:Mg) (x:Nat):Mg :=
 let c:=t.cell.getD x 0
 let st:=if st.of.getD c 0<0 then oI t b r st c else st
 let i:=(st.of.getD c 0).toNat
 { st with cls:=st.cls.set i (Fz (st.cls.getD i []) (kP [UInt8.ofNat x])) }
def Mi (t:Tb) (b r:List Nat):Mg:=(List.range 256).foldl (rP t b r) ⟨[],[],[],List.replicate t.cells (-1)⟩
structure Cn where
 place:List Int
 order:List Nat
 row:List Nat
def cnP (t:Tb) (b:List Nat) (s:Nat) (st:Cn) (c:Nat):Cn :=
 let x:=b.getD (t.to s c) 0
 let st:=if st.place.getD x 0<0 then { st with place:=st.place.set x (st.order.length:Int),order:=st.order++[x] } else st
 { st with row:=st.row++[(st.place.getD x 0).toNat] }
def cnG (t:Tb) (b r cells:List Nat):Nat→Nat→List Int→List Nat→List (List Nat)→List Bool→Option (List (List Nat)×List Bool)
 | 0,_,_,_,_,_=>none
 | f+1,i,pl,od,nx,ac =>
  if i<od.length then
   let s:=r.getD (od.getD i 0) 0
   let st:=cells.foldl (cnP t b s) ⟨pl,od,[]⟩
   cnG t b r cells f (i+1) st.place st.order (nx++[st.row]) (ac++[t.acc.getD s false])
  else some (nx,ac)
def Eu (t:Tb):Option My :=
 match Zo t with
 | none=>none
 | some l=>match Ry t l with
  | none=>none
  | some (b,r) =>
   let m:=Mi t b r
   match cnG t b r m.cells (r.length+1) 0 ((List.replicate r.length (-1)).set (b.getD 0 0) 0) [b.getD 0 0] [] [] with
   | none=>none
   | some (nx,ac)=>some ⟨m.cls,nx,ac⟩
def Cf (d:My):Tb:=⟨(d.cls.zipIdx).foldl (fun cell ci=>(Bu ci.1).foldl (fun cell b=>cell.set b.toNat ci.2) cell) (List.replicate 256 0),d.cls.length,d.next,d.acc⟩
def Mz:List (List Nat)→List Nat→Bool
 | [],seen=>decide (Je seen=[0,0,0,0])
 | c::l,seen=>!(decide (c=[0,0,0,0])) && (decide (Gz seen c=[0,0,0,0]) && Mz l (Fz seen c))
def Hm (d:My):Bool :=
 decide (1≤d.next.length) && (decide (d.next.length≤64) && (decide (d.acc.length=d.next.length) && (decide (1≤d.cls.length) && (decide (d.cls.length≤256) && (Mz d.cls [0,0,0,0] && d.next.all fun r=>decide (r.length=d.cls.length) && r.all fun x=>decide (x<d.next.length))))))
structure Jn where
 keys:List (Nat×Nat)
 cell:List Nat
 bytes:List Nat
def jnP (a b:Tb) (st:Jn) (x:Nat):Jn :=
 let k:=(a.cell.getD x 0,b.cell.getD x 0)
 let i:=Da k st.keys
 if i<st.keys.length then { st with cell:=st.cell++[i] } else ⟨st.keys++[k],st.cell++[st.bytes.length],st.bytes++[x]⟩
def Fq (a b:Tb):Jn:=(List.range 256).foldl (jnP a b) ⟨[],[],[]⟩
structure Cs where
 p:Nat
 q:Nat
 s:Nat
deriving DecidableEq
structure Ex where
 l:List Cs
 row:List Nat
def rQ (nx:Cs→Nat→Cs) (most:Nat) (s:Cs) (st:Option Ex) (b:Nat):Option Ex :=
 match st with
 | none=>none
 | some st =>
  let to:=nx s b
  let i:=Da to st.l
  if i<st.l.length then some { st with row:=st.row++[i] } else if st.l.length=most then none else some ⟨st.l++[to],st.row++[st.l.length]⟩
def rR (bytes:List Nat) (nx:Cs→Nat→Cs) (ac:Cs→Bool) (most:Nat):Nat→Nat→List Cs→List (List Nat)→List Bool→Option (Option (List (List Nat)×List Bool))
 | 0,_,_,_,_=>none
 | f+1,i,l,next,acc =>
  match l[i]? with
  | none=>some (some (next,acc))
  | some s=>match bytes.foldl (rQ nx most s) (some ⟨l,[]⟩) with
   | none=>some none
   | some st=>rR bytes nx ac most f (i+1) st.l (next++[st.row]) (acc++[ac s])
def Zp (t:Tb) (s b:Nat):Nat:=(List.range t.next.length).foldl (fun out q=>if Ei (s / 2 ^ q) 1=1 then Xv out (2 ^ (t.to q (t.cell.getD b 0))) else out) 0
def Oe (t:Tb) (s:Nat):Bool:=(t.acc.zipIdx).any fun p=>p.1 && decide (Ei (s / 2 ^ p.2) 1=1)
def Jg (x:Tb) (s:Cs):Cs:=if x.acc.getD s.p false=true then { s with s:=Xv s.s 1 } else s
def Io:Tb:=⟨List.range 256,256,[List.replicate 256 1,List.replicate 256 1],[true,false]⟩
structure Ef where
 kind:Int
 c:List Nat
 l:Int
 r:Int
 mn:Int
 mx:Int
deriving DecidableEq
def oJ (n:Ef):List Value:=.int .i64 n.kind::n.c.map Af++[.int .i64 n.l,.int .i64 n.r,.int .i64 n.mn,.int .i64 n.mx]
def Zu (c:List Nat):Prop:=c.length=4∧∀ x∈c,x<W64
def NodeR (_:Ghost) (cs:List Value) (n:Ef):Prop:=cs=oJ n∧Zu n.c
def Rx (G:Ghost) (v:Value) (l:List Ef):Prop:=Be 9 NodeR G v l
theorem Rx.mono {G G':Ghost} (h:G.le G') {v:Value} {l:List Ef} (hl:Rx G v l):Rx G' v l:=Be.mono (R:=NodeR) (G:=G) (G':=G') (fun _ _ h=>h) h hl
def To (k:Int):Nat:=if k=4∨k=5∨k=6 then 2 else if k=7∨k=8 then 1 else 0
def noC:List Nat:=[0,0,0,0]
theorem Mj {c:List Nat} (h:c.length=4):∃ a b d e,c=[a,b,d,e]:=by
 match c,h with
 | [a,b,d,e],_=>exact ⟨a,b,d,e,rfl⟩
def Na (n:Ef) (i:Int):Prop:=(if 0<To n.kind then 0≤n.l∧n.l<i else n.l=0)∧(if 1<To n.kind then 0≤n.r∧n.r<i else n.r=0)
instance (n:Ef) (i:Int):Decidable (Na n i):=by unfold Na;infer_instance
def Em (n:Ef) (i:Int):Int :=
 if n.kind<1∨8<n.kind then 1
 else if ¬ Na n i then 1
 else if n.kind≠3∧n.c≠noC then 1
 else if n.kind≠8 then (if n.mn≠0∨n.mx≠0 then 1 else 0)
 else if n.mn<0∨n.mx < -1 then 1
 else if 16<n.mn∨16<n.mx then 2
 else if n.mx≠-1∧n.mx<n.mn then 1 else 0
def Rz:Nat→List Ef→Int
 | _,[]=>0
 | i,n::t=>if Em n i=0 then Rz (i+1) t else Em n i
def Nb (cs:List Nat) (n:Ef):List Nat :=
 if 1<To n.kind then (cs.modify n.l.toNat (·+1)).modify n.r.toNat (·+1)
 else if 0<To n.kind then cs.modify n.l.toNat (·+1) else cs
def cntF (l:List Ef):List Nat:=l.foldl Nb (List.replicate l.length 0)
def dB (cs:List Nat) (m:Nat):Bool:=(cs.take m).all (· == 1)
def Kj (l:List Ef):Int :=
 if 200<l.length then 2 else if l.length=0 then 1 else if Rz 0 l=0 then (if dB (cntF l) (l.length-1)=true then 0 else 1) else Rz 0 l
theorem vN {k:Int} (h:k=4∨k=5∨k=6):To k=2:=if_pos h
theorem arF_1 {k:Int} (h:k=7∨k=8):To k=1:=by unfold To;rw [if_neg Dz,if_pos h]
theorem arF_0 {k:Int} (h:¬ (k=4∨k=5∨k=6)) (h2:¬ (k=7∨k=8)):To k=0:=by unfold To;rw [if_neg h,if_neg h2]
theorem dD {n:Ef} {i:Int} (h:Em n i=0):Na n i:=by
 unfold Em at h
 split at h
 ·cases h
 ·split at h
  ·cases h
  ·rename_i h2;exact Classical.not_not.1 h2
theorem ops_l {n:Ef} {i:Int} (h:Na n i) (ha:0<To n.kind):0≤n.l∧n.l<i:=by have:=h.1;rwa [if_pos ha] at this
theorem ops_r {n:Ef} {i:Int} (h:Na n i) (ha:1<To n.kind):0≤n.r∧n.r<i:=by have:=h.2;rwa [if_pos ha] at this
theorem Uf (cs:List Nat) (n:Ef):(Nb cs n).length=cs.length:=by unfold Nb;split<;>(try split)<;>simp
theorem mod_le {cs:List Nat} {i b:Nat} (h:∀ x∈cs,x≤b):∀ x∈cs.modify i (·+1),x≤b+1:=by
 intro x hx
 obtain ⟨j,hj,hx⟩:=List.getElem_of_mem hx
 rw [List.getElem_modify] at hx
 have:=h (cs[j]'(by simpa using hj)) (List.getElem_mem _)
 split at hx<;>omega
theorem Zw {cs:List Nat} {n:Ef} {b:Nat} (h:∀ x∈cs,x≤b):∀ x∈Nb cs n,x≤b+2:=by
 unfold Nb;split
 ·exact mod_le (mod_le h)
 ·split
  ·intro x hx;have:=mod_le h x hx;omega
  ·intro x hx;have:=h x hx;omega
abbrev natW (n:Nat):Value:=.int .i64 (n:Int)
theorem oK {cs:List Nat} {i:Nat} (h:i<cs.length):(cs.map natW).set i (.int .i64 ((cs[i]+1:Nat):Int))=(cs.modify i (·+1)).map natW:=by
 apply List.ext_getElem
 ·simp
 ·intro j h1 h2
  rw [List.getElem_set,List.getElem_map,List.getElem_map,List.getElem_modify]
  split
  ·rename_i h3;subst h3;rfl
  ·rfl
theorem vO {G:Ghost} {v:Value} {n:Nat} {cs:List Nat} (h:Sl G v 1 n (cs.map natW)) (hn:n=cs.length):Bt G v (cs.map fun n:Nat=>(n:Int)):=by
 subst hn
 show Sl G v 1 (cs.map fun n:Nat=>(n:Int)).length ((cs.map fun n:Nat=>(n:Int)).map (.int .i64))
 rw [List.length_map,List.map_map];exact h
theorem Ug {l:List Ef} {k:Nat} (h:k<l.length) (h0:Em l[k] k=0):Rz k (l.drop k)=Rz (k+1) (l.drop (k+1)):=by
 rw [List.drop_eq_getElem_cons h,Rz,if_pos h0]
theorem vP {l:List Ef} {k:Nat} (h:k<l.length) (h0:¬ Em l[k] k=0):Rz k (l.drop k)=Em l[k] k:=by
 rw [List.drop_eq_getElem_cons h,Rz,if_neg h0]
theorem vQ {cs:List Nat} {m:Nat} (h:∀ i,i<m→cs.getD i 0=1):dB cs m=true:=by
 unfold dB
 rw [List.all_eq_true]
 intro x hx
 obtain ⟨j,hj,rfl⟩:=List.getElem_of_mem hx
 rw [List.length_take] at hj
 have:=h j Dz
 rw [List.getD_eq_getElem?_getD,List.getElem?_eq_getElem Dz] at this
 simpa using this
theorem vR {cs:List Nat} {m i:Nat} (hi:i<m) (hl:i<cs.length) (h:¬ cs[i]=1):dB cs m=false:=by
 unfold dB
 rw [List.all_eq_false]
 exact ⟨cs[i],List.mem_of_getElem? (i:=i) (by rw [List.getElem?_take_of_lt hi,List.getElem?_eq_getElem hl]),by simpa using h⟩
theorem rS {l:List Ef} (h:200<l.length):Kj l=2:=if_pos h
theorem rT {l:List Ef} (h:l.length=0):Kj l=1:=by unfold Kj;rw [if_neg Dz,if_pos h]
theorem rU {l:List Ef} (h1:¬ 200<l.length) (h2:¬ l.length=0) (h:¬ Rz 0 l=0):Kj l=Rz 0 l:=by unfold Kj;rw [if_neg h1,if_neg h2,if_neg h]
theorem dE {l:List Ef} (h1:¬ 200<l.length) (h2:¬ l.length=0) (h:Rz 0 l=0):Kj l=if dB (cntF l) (l.length-1)=true then 0 else 1:=by unfold Kj;rw [if_neg h1,if_neg h2,if_pos h]
structure Of where
 base:Int
 digits:Int
 top:Int
 over:Int
 zeros:Bool
deriving DecidableEq
structure Kt where
 r:List Ef
 lz:Bool
deriving DecidableEq
structure Nc where
 kind:Int
 neg:Bool
 x:Int
 y:Int
 n:Int
 k:Int
 r:List Ef
deriving DecidableEq
deriving instance DecidableEq for kO
structure Bm where
 kind:Int
 x:Int
 y:Int
 z:Int
 n:Int
 i:Int
 j:Int
 b:List UInt8
 last:Bool
 op:kO
 c0:Nat
 c1:Nat
 c2:Nat
 c3:Nat
 rule:Of
 p:List Kt
 ys:List Int
 cond:Nc
 name:List UInt8
 thn:Int
 els:Int
deriving DecidableEq
structure By where
 stmts:List Bm
 blocks:List (List Nat)
deriving DecidableEq
def Hr (s:List UInt8):Value:=.string ⟨s.toArray⟩
abbrev iV (z:Int):Value:=.int .i64 z
def aA (G:Ghost) (cs:List Value) (p:Kt):Prop:=∃ v,cs=[v,.bool p.lz]∧Rx G v p.r
def vS (G:Ghost) (v:Value) (l:List Kt):Prop:=Be 2 aA G v l
theorem aA.mono {G G':Ghost} (h:G.le G') {cs:List Value} {p:Kt} (hp:aA G cs p):aA G' cs p:=by
 obtain ⟨v,e,hv⟩:=hp
 exact ⟨v,e,hv.mono h⟩
theorem vS.mono {G G':Ghost} (h:G.le G') {v:Value} {l:List Kt} (hl:vS G v l):vS G' v l:=Be.mono (fun _ _ hp=>hp.mono h) h hl
def lQ (s:Bm) (vb vo vn vp vy vr:Value):List Value :=
 [iV s.kind,iV s.x,iV s.y,iV s.z,iV s.n,iV s.i,iV s.j,vb,.bool s.last,iV s.op.kind,vo,vn,Af s.c0,Af s.c1,Af s.c2,Af s.c3,
  iV s.rule.base,iV s.rule.digits,iV s.rule.top,iV s.rule.over,.bool s.rule.zeros,vp,vy,
  iV s.cond.kind,.bool s.cond.neg,iV s.cond.x,iV s.cond.y,iV s.cond.n,iV s.cond.k,vr,Hr s.name,iV s.thn,iV s.els]
structure StmR (G:Ghost) (cs:List Value) (s:Bm):Prop where
 ex:∃ vb vo vn vp vy vr,cs=lQ s vb vo vn vp vy vr∧Cv G vb s.b∧Cv G vo s.op.old∧Cv G vn s.op.new∧vS G vp s.p∧Bt G vy s.ys∧Rx G vr s.cond.r
 w:s.c0<W64∧s.c1<W64∧s.c2<W64∧s.c3<W64
theorem StmR.mono {G G':Ghost} (h:G.le G') {cs:List Value} {s:Bm} (hs:StmR G cs s):StmR G' cs s:=by
 obtain ⟨⟨vb,vo,vn,vp,vy,vr,e,h1,h2,h3,h4,h5,h6⟩,hw⟩:=hs
 exact ⟨⟨vb,vo,vn,vp,vy,vr,e,h1.mono h,h2.mono h,h3.mono h,h4.mono h,h5.mono h,h6.mono h⟩,hw⟩
def Stms (G:Ghost) (v:Value) (l:List Bm):Prop:=Be 33 StmR G v l
theorem Stms.mono {G G':Ghost} (h:G.le G') {v:Value} {l:List Bm} (hl:Stms G v l):Stms G' v l:=Be.mono (fun _ _ hp=>hp.mono h) h hl
def aB (k:Int):Bool:=decide (k=3∨k=5∨k=6∨k=8∨k=9∨k=10)
def Qb (n lo hi:Int):Bool:=decide (lo≤n∧n≤hi)
def Ha (x:Int):Bool:=Qb x 0 11
def eO:List Int→List Int→Bool
 | _,[]=>true
 | seen,x::l=>Qb x 1 11 && (!(seen.contains x) && eO (seen++[x]) l)
def Js (l:List Int):Bool:=eO [] l
def dF (r:Of):Int :=
 if ¬ (r.base=10∨r.base=16)∨r.digits<1∨6<r.digits∨r.top<1∨50<r.top∨r.over<0∨2<r.over then 1 else 0
def Dy (c:List Nat):List Ef:=[⟨3,c,0,0,0,0⟩,⟨8,noC,0,0,0,-1⟩]
def rV:List Nat:=kP [97]
def clB:List Nat:=kP [98]
def Pr:List Nat:=Ig rV 98
def Ps (x:List Ef):Prop:=x=Dy rV∨x=Dy clB∨x=Dy Pr
instance (x:List Ef):Decidable (Ps x):=by unfold Ps;infer_instance
def StmSm (s:Bm):Prop:=(s.kind=9→s.p.length≤6∧s.p≠[]∧∀ p∈s.p,Ps p.r)∧(s.kind=10→s.cond.kind=1→Ps s.cond.r)
instance (s:Bm):Decidable (StmSm s):=by unfold StmSm;infer_instance
structure Ii where
 blocks:List Bool
 stmts:List Bool
 todo:List Nat
def Hv (seen:List Bool) (i:Int):Option (List Bool) :=
 if i<0∨(seen.length:Int)≤i∨seen.getD i.toNat false=true then none else some (seen.set i.toNat true)
def Hw (t:Option Ii) (x:Int):Option Ii :=
 match t with
 | none=>none
 | some t=>if x=-1 then some t else match Hv t.blocks x with
  | none=>none
  | some b=>some ⟨b,t.stmts,t.todo++[x.toNat]⟩
def Nf (p:By) (t:Option Ii) (i:Nat):Option Ii :=
 match t with
 | none=>none
 | some t=>match Hv t.stmts i with
  | none=>none
  | some s=>match p.stmts[i]? with
   | none=>none
   | some st=>Hw (Hw (some ⟨t.blocks,s,t.todo⟩) st.thn) st.els
def Qc (p:By):Nat→Ii→Option (Option Ii)
 | 0,_=>none
 | f+1,t =>
  match t.todo with
  | []=>some (some t)
  | b::rest=>match (p.blocks.getD b []).foldl (Nf p) (some ⟨t.blocks,t.stmts,rest⟩) with
   | none=>some none
   | some t=>Qc p f t
def iL (p:By):Option Bool :=
 match Qc p (p.blocks.length+1) ⟨(List.replicate p.blocks.length false).set 0 true,List.replicate p.stmts.length false,[0]⟩ with
 | none=>none
 | some none=>some false
 | some (some t)=>some (!(t.blocks.contains false) && !(t.stmts.contains false))
def bZ:List Bool:=List.replicate 16 false
def Ih (l m:List Int):List Bool:=m.foldl (fun v n=>v.set (12+n.toNat) true) (l.foldl (fun v x=>v.set x.toNat true) bZ)
def iM (v w:List Bool):List Bool:=List.zipWith (· && ·) v w
def Jh (v w:List Bool):List Bool:=List.zipWith (· || ·) v w
def Qp (s:Bm):List Bool :=
 if s.kind=5 then Ih [s.x] [s.n]
 else if s.kind=10 then (if s.cond.kind=4 then Ih [] [s.cond.n] else if s.cond.kind=2 then Ih [s.cond.x,s.cond.y] [] else Ih [s.cond.x] [])
 else if s.kind=2∨s.kind=11∨s.kind=12∨s.kind=14∨s.kind=15 then bZ else Ih [s.x] []
def Gd (s:Bm):List Bool×Bool :=
 if s.kind=8 then (Ih [] [s.n],true)
 else if s.kind=9 then (Ih s.ys [],true)
 else
  let v:=if s.kind=3∨s.kind=5 then bZ.set s.z.toNat true else bZ
  let v:=if s.kind=3∨s.kind=5∨s.kind=1∨s.kind=2∨s.kind=4∨s.kind=6∨s.kind=7 then v.set s.y.toNat true else v
  (v,decide (s.kind=3∨s.kind=5∨(s.kind=6∧s.op.kind=3)))
structure Jz where
 live:Bool
 set:List Bool
def Og (a b:Jz):Jz:=if a.live=false then b else if b.live=false then a else ⟨true,iM a.set b.set⟩
end Go.Proofs.YtngdgnolkilheaaGreatDoor
namespace Go.Proofs.YtngdgnolkilheaaGreatDoor
open Go Go.Ex Go.RowKit Go.Proofs.Tryz
instance C10:Ic prog 10 Tryz.f10:=⟨func10,rfl,kR⟩
instance C100:Ic prog 100 Tryz.f100:=⟨func100,rfl,kR⟩
instance C101:Ic prog 101 Tryz.f101:=⟨func101,rfl,kR⟩
instance C102:Ic prog 102 Tryz.f102:=⟨func102,rfl,kR⟩
instance C103:Ic prog 103 Tryz.f103:=⟨func103,rfl,kR⟩
instance C104:Ic prog 104 Tryz.f104:=⟨func104,rfl,kR⟩
instance C105:Ic prog 105 Tryz.f105:=⟨func105,rfl,kR⟩
instance C106:Ic prog 106 Tryz.f106:=⟨func106,rfl,kR⟩
instance C107:Ic prog 107 Tryz.f107:=⟨func107,rfl,kR⟩
instance C108:Ic prog 108 Tryz.f108:=⟨func108,rfl,kR⟩
instance C109:Ic prog 109 Tryz.f109:=⟨func109,rfl,kR⟩
instance C11:Ic prog 11 Tryz.f11:=⟨func11,rfl,kR⟩
instance C110:Ic prog 110 Tryz.f110:=⟨func110,rfl,kR⟩
instance C111:Ic prog 111 Tryz.f111:=⟨func111,rfl,kR⟩
instance C112:Ic prog 112 Tryz.f112:=⟨func112,rfl,kR⟩
instance C113:Ic prog 113 Tryz.f113:=⟨func113,rfl,kR⟩
instance C114:Ic prog 114 Tryz.f114:=⟨func114,rfl,kR⟩
instance C115:Ic prog 115 Tryz.f115:=⟨func115,rfl,kR⟩
instance C116:Ic prog 116 Tryz.f116:=⟨func116,rfl,kR⟩
instance C12:Ic prog 12 Tryz.f12:=⟨func12,rfl,kR⟩
instance C122:Ic prog 122 Tryz.f122:=⟨func122,rfl,kR⟩
instance C126:Ic prog 126 Tryz.f126:=⟨func126,rfl,kR⟩
instance C127:Ic prog 127 Tryz.f127:=⟨func127,rfl,kR⟩
instance C14:Ic prog 14 Tryz.f14:=⟨func14,rfl,kR⟩
instance C143:Ic prog 143 Tryz.f143:=⟨func143,rfl,kR⟩
instance C144:Ic prog 144 Tryz.f144:=⟨func144,rfl,kR⟩
instance C145:Ic prog 145 Tryz.f145:=⟨func145,rfl,kR⟩
instance C146:Ic prog 146 Tryz.f146:=⟨func146,rfl,kR⟩
instance C148:Ic prog 148 Tryz.f148:=⟨func148,rfl,kR⟩
instance C149:Ic prog 149 Tryz.f149:=⟨func149,rfl,kR⟩
instance C15:Ic prog 15 Tryz.f15:=⟨func15,rfl,kR⟩
instance C150:Ic prog 150 Tryz.f150:=⟨func150,rfl,kR⟩
instance C151:Ic prog 151 Tryz.f151:=⟨func151,rfl,kR⟩
instance C163:Ic prog 163 Tryz.f163:=⟨func163,rfl,kR⟩
instance C164:Ic prog 164 Tryz.f164:=⟨func164,rfl,kR⟩
instance C165:Ic prog 165 Tryz.f165:=⟨func165,rfl,kR⟩
instance C166:Ic prog 166 Tryz.f166:=⟨func166,rfl,kR⟩
instance C167:Ic prog 167 Tryz.f167:=⟨func167,rfl,kR⟩
instance C168:Ic prog 168 Tryz.f168:=⟨func168,rfl,kR⟩
instance C169:Ic prog 169 Tryz.f169:=⟨func169,rfl,kR⟩
instance C17:Ic prog 17 Tryz.f17:=⟨func17,rfl,kR⟩
instance C170:Ic prog 170 Tryz.f170:=⟨func170,rfl,kR⟩
instance C171:Ic prog 171 Tryz.f171:=⟨func171,rfl,kR⟩
instance C177:Ic prog 177 Tryz.f177:=⟨func177,rfl,kR⟩
instance C186:Ic prog 186 Tryz.f186:=⟨func186,rfl,kR⟩
instance C187:Ic prog 187 Tryz.f187:=⟨func187,rfl,kR⟩
instance C188:Ic prog 188 Tryz.f188:=⟨func188,rfl,kR⟩
instance C189:Ic prog 189 Tryz.f189:=⟨func189,rfl,kR⟩
instance C19:Ic prog 19 Tryz.f19:=⟨func19,rfl,kR⟩
instance C190:Ic prog 190 Tryz.f190:=⟨func190,rfl,kR⟩
instance C191:Ic prog 191 Tryz.f191:=⟨func191,rfl,kR⟩
instance C192:Ic prog 192 Tryz.f192:=⟨func192,rfl,kR⟩
instance C193:Ic prog 193 Tryz.f193:=⟨func193,rfl,kR⟩
instance C194:Ic prog 194 Tryz.f194:=⟨func194,rfl,kR⟩
instance C195:Ic prog 195 Tryz.f195:=⟨func195,rfl,kR⟩
instance C196:Ic prog 196 Tryz.f196:=⟨func196,rfl,kR⟩
instance C20:Ic prog 20 Tryz.f20:=⟨func20,rfl,kR⟩
instance C200:Ic prog 200 Tryz.f200:=⟨func200,rfl,kR⟩
instance C21:Ic prog 21 Tryz.f21:=⟨func21,rfl,kR⟩
instance C220:Ic prog 220 Tryz.f220:=⟨func220,rfl,kR⟩
instance C221:Ic prog 221 Tryz.f221:=⟨func221,rfl,kR⟩
instance C222:Ic prog 222 Tryz.f222:=⟨func222,rfl,kR⟩
instance C224:Ic prog 224 Tryz.f224:=⟨func224,rfl,kR⟩
instance C225:Ic prog 225 Tryz.f225:=⟨func225,rfl,kR⟩
instance C226:Ic prog 226 Tryz.f226:=⟨func226,rfl,kR⟩
instance C23:Ic prog 23 Tryz.f23:=⟨func23,rfl,kR⟩
instance C230:Ic prog 230 Tryz.f230:=⟨func230,rfl,kR⟩
instance C24:Ic prog 24 Tryz.f24:=⟨func24,rfl,kR⟩
instance C240:Ic prog 240 Tryz.f240:=⟨func240,rfl,kR⟩
instance C241:Ic prog 241 Tryz.f241:=⟨func241,rfl,kR⟩
instance C242:Ic prog 242 Tryz.f242:=⟨func242,rfl,kR⟩
instance C243:Ic prog 243 Tryz.f243:=⟨func243,rfl,kR⟩
instance C244:Ic prog 244 Tryz.f244:=⟨func244,rfl,kR⟩
instance C245:Ic prog 245 Tryz.f245:=⟨func245,rfl,kR⟩
instance C246:Ic prog 246 Tryz.f246:=⟨func246,rfl,kR⟩
instance C247:Ic prog 247 Tryz.f247:=⟨func247,rfl,kR⟩
instance C248:Ic prog 248 Tryz.f248:=⟨func248,rfl,kR⟩
instance C249:Ic prog 249 Tryz.f249:=⟨func249,rfl,kR⟩
instance C25:Ic prog 25 Tryz.f25:=⟨func25,rfl,kR⟩
instance C250:Ic prog 250 Tryz.f250:=⟨func250,rfl,kR⟩
instance C251:Ic prog 251 Tryz.f251:=⟨func251,rfl,kR⟩
instance C252:Ic prog 252 Tryz.f252:=⟨func252,rfl,kR⟩
instance C253:Ic prog 253 Tryz.f253:=⟨func253,rfl,kR⟩
instance C254:Ic prog 254 Tryz.f254:=⟨func254,rfl,kR⟩
instance C255:Ic prog 255 Tryz.f255:=⟨func255,rfl,kR⟩
instance C256:Ic prog 256 Tryz.f256:=⟨func256,rfl,kR⟩
instance C257:Ic prog 257 Tryz.f257:=⟨func257,rfl,kR⟩
instance C26:Ic prog 26 Tryz.f26:=⟨func26,rfl,kR⟩
instance C261:Ic prog 261 Tryz.f261:=⟨func261,rfl,kR⟩
instance C262:Ic prog 262 Tryz.f262:=⟨func262,rfl,kR⟩
instance C27:Ic prog 27 Tryz.f27:=⟨func27,rfl,kR⟩
instance C274:Ic prog 274 Tryz.f274:=⟨func274,rfl,kR⟩
instance C275:Ic prog 275 Tryz.f275:=⟨func275,rfl,kR⟩
instance C276:Ic prog 276 Tryz.f276:=⟨func276,rfl,kR⟩
instance C277:Ic prog 277 Tryz.f277:=⟨func277,rfl,kR⟩
instance C278:Ic prog 278 Tryz.f278:=⟨func278,rfl,kR⟩
instance C279:Ic prog 279 Tryz.f279:=⟨func279,rfl,kR⟩
instance C28:Ic prog 28 Tryz.f28:=⟨func28,rfl,kR⟩
instance C280:Ic prog 280 Tryz.f280:=⟨func280,rfl,kR⟩
instance C281:Ic prog 281 Tryz.f281:=⟨func281,rfl,kR⟩
instance C282:Ic prog 282 Tryz.f282:=⟨func282,rfl,kR⟩
instance C283:Ic prog 283 Tryz.f283:=⟨func283,rfl,kR⟩
instance C284:Ic prog 284 Tryz.f284:=⟨func284,rfl,kR⟩
instance C285:Ic prog 285 Tryz.f285:=⟨func285,rfl,kR⟩
instance C287:Ic prog 287 Tryz.f287:=⟨func287,rfl,kR⟩
instance C288:Ic prog 288 Tryz.f288:=⟨func288,rfl,kR⟩
instance C29:Ic prog 29 Tryz.f29:=⟨func29,rfl,kR⟩
instance C30:Ic prog 30 Tryz.f30:=⟨func30,rfl,kR⟩
instance C304:Ic prog 304 Tryz.f304:=⟨func304,rfl,kR⟩
instance C305:Ic prog 305 Tryz.f305:=⟨func305,rfl,kR⟩
instance C306:Ic prog 306 Tryz.f306:=⟨func306,rfl,kR⟩
instance C307:Ic prog 307 Tryz.f307:=⟨func307,rfl,kR⟩
instance C308:Ic prog 308 Tryz.f308:=⟨func308,rfl,kR⟩
instance C309:Ic prog 309 Tryz.f309:=⟨func309,rfl,kR⟩
instance C31:Ic prog 31 Tryz.f31:=⟨func31,rfl,kR⟩
instance C310:Ic prog 310 Tryz.f310:=⟨func310,rfl,kR⟩
instance C311:Ic prog 311 Tryz.f311:=⟨func311,rfl,kR⟩
instance C312:Ic prog 312 Tryz.f312:=⟨func312,rfl,kR⟩
instance C313:Ic prog 313 Tryz.f313:=⟨func313,rfl,kR⟩
instance C32:Ic prog 32 Tryz.f32:=⟨func32,rfl,kR⟩
instance C325:Ic prog 325 Tryz.f325:=⟨func325,rfl,kR⟩
instance C33:Ic prog 33 Tryz.f33:=⟨func33,rfl,kR⟩
instance C333:Ic prog 333 Tryz.f333:=⟨func333,rfl,kR⟩
instance C334:Ic prog 334 Tryz.f334:=⟨func334,rfl,kR⟩
instance C35:Ic prog 35 Tryz.f35:=⟨func35,rfl,kR⟩
instance C36:Ic prog 36 Tryz.f36:=⟨func36,rfl,kR⟩
instance C39:Ic prog 39 Tryz.f39:=⟨func39,rfl,kR⟩
instance C40:Ic prog 40 Tryz.f40:=⟨func40,rfl,kR⟩
instance C41:Ic prog 41 Tryz.f41:=⟨func41,rfl,kR⟩
instance C42:Ic prog 42 Tryz.f42:=⟨func42,rfl,kR⟩
instance C43:Ic prog 43 Tryz.f43:=⟨func43,rfl,kR⟩
instance C44:Ic prog 44 Tryz.f44:=⟨func44,rfl,kR⟩
instance C45:Ic prog 45 Tryz.f45:=⟨func45,rfl,kR⟩
instance C46:Ic prog 46 Tryz.f46:=⟨func46,rfl,kR⟩
instance C50:Ic prog 50 Tryz.f50:=⟨func50,rfl,kR⟩
instance C51:Ic prog 51 Tryz.f51:=⟨func51,rfl,kR⟩
instance C52:Ic prog 52 Tryz.f52:=⟨func52,rfl,kR⟩
instance C53:Ic prog 53 Tryz.f53:=⟨func53,rfl,kR⟩
instance C54:Ic prog 54 Tryz.f54:=⟨func54,rfl,kR⟩
instance C55:Ic prog 55 Tryz.f55:=⟨func55,rfl,kR⟩
instance C56:Ic prog 56 Tryz.f56:=⟨func56,rfl,kR⟩
instance C57:Ic prog 57 Tryz.f57:=⟨func57,rfl,kR⟩
instance C58:Ic prog 58 Tryz.f58:=⟨func58,rfl,kR⟩
instance C59:Ic prog 59 Tryz.f59:=⟨func59,rfl,kR⟩
instance C60:Ic prog 60 Tryz.f60:=⟨func60,rfl,kR⟩
instance C61:Ic prog 61 Tryz.f61:=⟨func61,rfl,kR⟩
instance C62:Ic prog 62 Tryz.f62:=⟨func62,rfl,kR⟩
instance C63:Ic prog 63 Tryz.f63:=⟨func63,rfl,kR⟩
instance C64:Ic prog 64 Tryz.f64:=⟨func64,rfl,kR⟩
instance C65:Ic prog 65 Tryz.f65:=⟨func65,rfl,kR⟩
instance C66:Ic prog 66 Tryz.f66:=⟨func66,rfl,kR⟩
instance C67:Ic prog 67 Tryz.f67:=⟨func67,rfl,kR⟩
instance C68:Ic prog 68 Tryz.f68:=⟨func68,rfl,kR⟩
instance C71:Ic prog 71 Tryz.f71:=⟨func71,rfl,kR⟩
instance C72:Ic prog 72 Tryz.f72:=⟨func72,rfl,kR⟩
instance C73:Ic prog 73 Tryz.f73:=⟨func73,rfl,kR⟩
instance C74:Ic prog 74 Tryz.f74:=⟨func74,rfl,kR⟩
instance C75:Ic prog 75 Tryz.f75:=⟨func75,rfl,kR⟩
instance C76:Ic prog 76 Tryz.f76:=⟨func76,rfl,kR⟩
instance C77:Ic prog 77 Tryz.f77:=⟨func77,rfl,kR⟩
instance C78:Ic prog 78 Tryz.f78:=⟨func78,rfl,kR⟩
instance C79:Ic prog 79 Tryz.f79:=⟨func79,rfl,kR⟩
instance C80:Ic prog 80 Tryz.f80:=⟨func80,rfl,kR⟩
instance C81:Ic prog 81 Tryz.f81:=⟨func81,rfl,kR⟩
instance C82:Ic prog 82 Tryz.f82:=⟨func82,rfl,kR⟩
instance C83:Ic prog 83 Tryz.f83:=⟨func83,rfl,kR⟩
instance C84:Ic prog 84 Tryz.f84:=⟨func84,rfl,kR⟩
instance C85:Ic prog 85 Tryz.f85:=⟨func85,rfl,kR⟩
instance C86:Ic prog 86 Tryz.f86:=⟨func86,rfl,kR⟩
instance C87:Ic prog 87 Tryz.f87:=⟨func87,rfl,kR⟩
instance C88:Ic prog 88 Tryz.f88:=⟨func88,rfl,kR⟩
instance C89:Ic prog 89 Tryz.f89:=⟨func89,rfl,kR⟩
instance C9:Ic prog 9 Tryz.f9:=⟨func9,rfl,kR⟩
instance C90:Ic prog 90 Tryz.f90:=⟨func90,rfl,kR⟩
instance C91:Ic prog 91 Tryz.f91:=⟨func91,rfl,kR⟩
instance C92:Ic prog 92 Tryz.f92:=⟨func92,rfl,kR⟩
instance C93:Ic prog 93 Tryz.f93:=⟨func93,rfl,kR⟩
instance C94:Ic prog 94 Tryz.f94:=⟨func94,rfl,kR⟩
instance C95:Ic prog 95 Tryz.f95:=⟨func95,rfl,kR⟩
instance A100:Ia prog 100 false:=⟨isAgg100⟩
instance A102:Ia prog 102 true:=⟨isAgg102⟩
instance A105:Ia prog 105 false:=⟨isAgg105⟩
instance A124:Ia prog 124 true:=⟨isAgg124⟩
instance A125:Ia prog 125 false:=⟨isAgg125⟩
instance A127:Ia prog 127 true:=⟨isAgg127⟩
instance A129:Ia prog 129 true:=⟨isAgg129⟩
instance A131:Ia prog 131 false:=⟨isAgg131⟩
instance A133:Ia prog 133 false:=⟨isAgg133⟩
instance A135:Ia prog 135 true:=⟨isAgg135⟩
instance A137:Ia prog 137 true:=⟨isAgg137⟩
instance A145:Ia prog 145 true:=⟨isAgg145⟩
instance A150:Ia prog 150 false:=⟨isAgg150⟩
instance A152:Ia prog 152 true:=⟨isAgg152⟩
instance A172:Ia prog 172 true:=⟨isAgg172⟩
instance A183:Ia prog 183 true:=⟨isAgg183⟩
instance A186:Ia prog 186 true:=⟨isAgg186⟩
instance A225:Ia prog 225 false:=⟨isAgg225⟩
instance A227:Ia prog 227 true:=⟨isAgg227⟩
instance A24:Ia prog 24 false:=⟨isAgg24⟩
instance A248:Ia prog 248 false:=⟨isAgg248⟩
instance A25:Ia prog 25 false:=⟨isAgg25⟩
instance A250:Ia prog 250 true:=⟨isAgg250⟩
instance A28:Ia prog 28 true:=⟨isAgg28⟩
instance A29:Ia prog 29 false:=⟨isAgg29⟩
instance A298:Ia prog 298 true:=⟨isAgg298⟩
instance A3:Ia prog 3 false:=⟨isAgg3⟩
instance A30:Ia prog 30 false:=⟨isAgg30⟩
instance A300:Ia prog 300 true:=⟨isAgg300⟩
instance A309:Ia prog 309 true:=⟨isAgg309⟩
instance A311:Ia prog 311 true:=⟨isAgg311⟩
instance A312:Ia prog 312 false:=⟨isAgg312⟩
instance A32:Ia prog 32 true:=⟨isAgg32⟩
instance A33:Ia prog 33 false:=⟨isAgg33⟩
instance A35:Ia prog 35 true:=⟨isAgg35⟩
instance A38:Ia prog 38 false:=⟨isAgg38⟩
instance A39:Ia prog 39 false:=⟨isAgg39⟩
instance A4:Ia prog 4 false:=⟨isAgg4⟩
instance A40:Ia prog 40 false:=⟨isAgg40⟩
instance A41:Ia prog 41 false:=⟨isAgg41⟩
instance A43:Ia prog 43 true:=⟨isAgg43⟩
instance A45:Ia prog 45 true:=⟨isAgg45⟩
instance A47:Ia prog 47 false:=⟨isAgg47⟩
instance A5:Ia prog 5 false:=⟨isAgg5⟩
instance A50:Ia prog 50 false:=⟨isAgg50⟩
instance A64:Ia prog 64 false:=⟨isAgg64⟩
instance A70:Ia prog 70 true:=⟨isAgg70⟩
instance A76:Ia prog 76 true:=⟨isAgg76⟩
instance A88:Ia prog 88 false:=⟨isAgg88⟩
instance A9:Ia prog 9 false:=⟨isAgg9⟩
instance S100:Sz prog 100 1:=⟨sizeOf100⟩
instance S102:Sz prog 102 2:=⟨sizeOf102⟩
instance S124:Sz prog 124 3:=⟨sizeOf124⟩
instance S125:Sz prog 125 1:=⟨sizeOf125⟩
instance S127:Sz prog 127 4:=⟨sizeOf127⟩
instance S129:Sz prog 129 5:=⟨sizeOf129⟩
instance S131:Sz prog 131 1:=⟨sizeOf131⟩
instance S135:Sz prog 135 7:=⟨sizeOf135⟩
instance S137:Sz prog 137 33:=⟨sizeOf137⟩
instance S145:Sz prog 145 2:=⟨sizeOf145⟩
instance S150:Sz prog 150 1:=⟨sizeOf150⟩
instance S152:Sz prog 152 3:=⟨sizeOf152⟩
instance S172:Sz prog 172 9:=⟨sizeOf172⟩
instance S174:Sz prog 174 7:=⟨sizeOf174⟩
instance S183:Sz prog 183 3:=⟨sizeOf183⟩
instance S186:Sz prog 186 16:=⟨sizeOf186⟩
instance S224:Sz prog 224 1:=⟨sizeOf224⟩
instance S225:Sz prog 225 1:=⟨sizeOf225⟩
instance S227:Sz prog 227 17:=⟨sizeOf227⟩
instance S25:Sz prog 25 1:=⟨sizeOf25⟩
instance S250:Sz prog 250 3:=⟨sizeOf250⟩
instance S28:Sz prog 28 14:=⟨sizeOf28⟩
instance S29:Sz prog 29 1:=⟨sizeOf29⟩
instance S298:Sz prog 298 256:=⟨sizeOf298⟩
instance S3:Sz prog 3 1:=⟨sizeOf3⟩
instance S300:Sz prog 300 259:=⟨sizeOf300⟩
instance S309:Sz prog 309 1:=⟨sizeOf309⟩
instance S311:Sz prog 311 3:=⟨sizeOf311⟩
instance S312:Sz prog 312 1:=⟨sizeOf312⟩
instance S32:Sz prog 32 16:=⟨sizeOf32⟩
instance S33:Sz prog 33 1:=⟨sizeOf33⟩
instance S35:Sz prog 35 2:=⟨sizeOf35⟩
instance S38:Sz prog 38 1:=⟨sizeOf38⟩
instance S39:Sz prog 39 1:=⟨sizeOf39⟩
instance S4:Sz prog 4 1:=⟨sizeOf4⟩
instance S40:Sz prog 40 1:=⟨sizeOf40⟩
instance S41:Sz prog 41 1:=⟨sizeOf41⟩
instance S43:Sz prog 43 4:=⟨sizeOf43⟩
instance S45:Sz prog 45 5:=⟨sizeOf45⟩
instance S5:Sz prog 5 1:=⟨sizeOf5⟩
instance S64:Sz prog 64 1:=⟨sizeOf64⟩
instance S70:Sz prog 70 2:=⟨sizeOf70⟩
instance S76:Sz prog 76 4:=⟨sizeOf76⟩
instance S88:Sz prog 88 1:=⟨sizeOf88⟩
instance S9:Sz prog 9 1:=⟨sizeOf9⟩
instance U100:Un prog 100 (.slice 137):=⟨underlying100⟩
instance U113:Un prog 113 (.map 70 3):=⟨underlying113⟩
instance U125:Un prog 125 (.int IntKind.u64):=⟨underlying125⟩
instance U127:Un prog 127 (.array 4 125):=⟨underlying127⟩
instance U131:Un prog 131 (.slice 145):=⟨underlying131⟩
instance U133:Un prog 133 (.slice 172):=⟨underlying133⟩
instance U150:Un prog 150 (.slice 9):=⟨underlying150⟩
instance U162:Un prog 162 (.int IntKind.u64):=⟨underlying162⟩
instance U186:Un prog 186 (.array 16 4):=⟨underlying186⟩
instance U22:Un prog 22 (.array 4 5):=⟨underlying22⟩
instance U228:Un prog 228 (.pointer 4):=⟨underlying228⟩
instance U23:Un prog 23 (.array 5 5):=⟨underlying23⟩
instance U248:Un prog 248 (.slice 127):=⟨underlying248⟩
instance U25:Un prog 25 (.int IntKind.u16):=⟨underlying25⟩
instance U26:Un prog 26 (.array 3 25):=⟨underlying26⟩
instance U271:Un prog 271 (.slice 250):=⟨underlying271⟩
instance U29:Un prog 29 (.slice 5):=⟨underlying29⟩
instance U298:Un prog 298 (.array 256 3):=⟨underlying298⟩
instance U3:Un prog 3 (.int IntKind.i64):=⟨underlying3⟩
instance U30:Un prog 30 (.slice 25):=⟨underlying30⟩
instance U309:Un prog 309 (.array 1 125):=⟨underlying309⟩
instance U327:Un prog 327 (.array 2 127):=⟨underlying327⟩
instance U33:Un prog 33 (.slice 3):=⟨underlying33⟩
instance U339:Un prog 339 (.map 311 3):=⟨underlying339⟩
instance U340:Un prog 340 (.slice 311):=⟨underlying340⟩
instance U358:Un prog 358 (.map 9 3):=⟨underlying358⟩
instance U378:Un prog 378 (.array 64 5):=⟨underlying378⟩
instance U38:Un prog 38 (.slice 102):=⟨underlying38⟩
instance U39:Un prog 39 (.slice 76):=⟨underlying39⟩
instance U40:Un prog 40 (.slice 70):=⟨underlying40⟩
instance U41:Un prog 41 (.slice 33):=⟨underlying41⟩
instance U47:Un prog 47 (.slice 64):=⟨underlying47⟩
instance U5:Un prog 5 (.int IntKind.u8):=⟨underlying5⟩
instance U64:Un prog 64 (.slice 4):=⟨underlying64⟩
instance U70:Un prog 70 (.array 2 3):=⟨underlying70⟩
instance U88:Un prog 88 (.map 70 4):=⟨underlying88⟩
instance O102_0:Fo prog 102 0 0:=⟨kR⟩
instance O102_1:Fo prog 102 1 1:=⟨kR⟩
instance O124_0:Fo prog 124 0 0:=⟨kR⟩
instance O124_1:Fo prog 124 1 1:=⟨kR⟩
instance O124_2:Fo prog 124 2 2:=⟨kR⟩
instance O129_0:Fo prog 129 0 0:=⟨kR⟩
instance O129_1:Fo prog 129 1 1:=⟨kR⟩
instance O129_2:Fo prog 129 2 2:=⟨kR⟩
instance O129_3:Fo prog 129 3 3:=⟨kR⟩
instance O135_0:Fo prog 135 0 0:=⟨kR⟩
instance O135_1:Fo prog 135 1 1:=⟨kR⟩
instance O135_2:Fo prog 135 2 2:=⟨kR⟩
instance O135_3:Fo prog 135 3 3:=⟨kR⟩
instance O135_4:Fo prog 135 4 4:=⟨kR⟩
instance O135_5:Fo prog 135 5 5:=⟨kR⟩
instance O135_6:Fo prog 135 6 6:=⟨kR⟩
instance O137_0:Fo prog 137 0 0:=⟨kR⟩
instance O137_1:Fo prog 137 1 1:=⟨kR⟩
instance O137_10:Fo prog 137 10 12:=⟨kR⟩
instance O137_11:Fo prog 137 11 16:=⟨kR⟩
instance O137_12:Fo prog 137 12 21:=⟨kR⟩
instance O137_13:Fo prog 137 13 22:=⟨kR⟩
instance O137_14:Fo prog 137 14 23:=⟨kR⟩
instance O137_15:Fo prog 137 15 30:=⟨kR⟩
instance O137_16:Fo prog 137 16 31:=⟨kR⟩
instance O137_17:Fo prog 137 17 32:=⟨kR⟩
instance O137_2:Fo prog 137 2 2:=⟨kR⟩
instance O137_3:Fo prog 137 3 3:=⟨kR⟩
instance O137_4:Fo prog 137 4 4:=⟨kR⟩
instance O137_5:Fo prog 137 5 5:=⟨kR⟩
instance O137_6:Fo prog 137 6 6:=⟨kR⟩
instance O137_7:Fo prog 137 7 7:=⟨kR⟩
instance O137_8:Fo prog 137 8 8:=⟨kR⟩
instance O137_9:Fo prog 137 9 9:=⟨kR⟩
instance O145_0:Fo prog 145 0 0:=⟨kR⟩
instance O152_0:Fo prog 152 0 0:=⟨kR⟩
instance O152_1:Fo prog 152 1 1:=⟨kR⟩
instance O152_2:Fo prog 152 2 2:=⟨kR⟩
instance O172_0:Fo prog 172 0 0:=⟨kR⟩
instance O172_1:Fo prog 172 1 1:=⟨kR⟩
instance O172_2:Fo prog 172 2 5:=⟨kR⟩
instance O172_3:Fo prog 172 3 6:=⟨kR⟩
instance O172_4:Fo prog 172 4 7:=⟨kR⟩
instance O172_5:Fo prog 172 5 8:=⟨kR⟩
instance O174_0:Fo prog 174 0 0:=⟨kR⟩
instance O174_1:Fo prog 174 1 2:=⟨kR⟩
instance O174_2:Fo prog 174 2 3:=⟨kR⟩
instance O177_2:Fo prog 177 2 2:=⟨kR⟩
instance O177_3:Fo prog 177 3 3:=⟨kR⟩
instance O183_0:Fo prog 183 0 0:=⟨kR⟩
instance O183_2:Fo prog 183 2 2:=⟨kR⟩
instance O227_0:Fo prog 227 0 0:=⟨kR⟩
instance O227_1:Fo prog 227 1 1:=⟨kR⟩
instance O250_0:Fo prog 250 0 0:=⟨kR⟩
instance O250_1:Fo prog 250 1 1:=⟨kR⟩
instance O250_2:Fo prog 250 2 2:=⟨kR⟩
instance O28_0:Fo prog 28 0 0:=⟨kR⟩
instance O28_1:Fo prog 28 1 1:=⟨kR⟩
instance O28_2:Fo prog 28 2 5:=⟨kR⟩
instance O28_3:Fo prog 28 3 10:=⟨kR⟩
instance O28_4:Fo prog 28 4 11:=⟨kR⟩
instance O300_0:Fo prog 300 0 0:=⟨kR⟩
instance O300_1:Fo prog 300 1 256:=⟨kR⟩
instance O300_2:Fo prog 300 2 257:=⟨kR⟩
instance O300_3:Fo prog 300 3 258:=⟨kR⟩
instance O311_0:Fo prog 311 0 0:=⟨kR⟩
instance O311_2:Fo prog 311 2 2:=⟨kR⟩
instance O32_0:Fo prog 32 0 0:=⟨kR⟩
instance O32_1:Fo prog 32 1 14:=⟨kR⟩
instance O32_2:Fo prog 32 2 15:=⟨kR⟩
instance O35_0:Fo prog 35 0 0:=⟨kR⟩
instance O35_1:Fo prog 35 1 1:=⟨kR⟩
instance O43_0:Fo prog 43 0 0:=⟨kR⟩
instance O43_1:Fo prog 43 1 1:=⟨kR⟩
instance O43_2:Fo prog 43 2 2:=⟨kR⟩
instance O43_3:Fo prog 43 3 3:=⟨kR⟩
instance O45_0:Fo prog 45 0 0:=⟨kR⟩
instance O45_1:Fo prog 45 1 4:=⟨kR⟩
instance O76_0:Fo prog 76 0 0:=⟨kR⟩
instance O76_1:Fo prog 76 1 1:=⟨kR⟩
instance O76_2:Fo prog 76 2 2:=⟨kR⟩
def tb:Tq prog:=⟨[⟨3,false,0,isAgg3,nofun⟩,⟨137,true,33,isAgg137,fun _=>sizeOf137⟩,⟨33,false,0,isAgg33,nofun⟩,⟨127,true,4,isAgg127,fun _=>sizeOf127⟩,⟨227,true,17,isAgg227,fun _=>sizeOf227⟩,⟨186,true,16,isAgg186,fun _=>sizeOf186⟩,⟨41,false,0,isAgg41,nofun⟩,⟨102,true,2,isAgg102,fun _=>sizeOf102⟩,⟨45,true,5,isAgg45,fun _=>sizeOf45⟩,⟨250,true,3,isAgg250,fun _=>sizeOf250⟩,⟨4,false,0,isAgg4,nofun⟩,⟨225,false,0,isAgg225,nofun⟩,⟨100,false,0,isAgg100,nofun⟩,⟨300,true,259,isAgg300,fun _=>sizeOf300⟩,⟨125,false,0,isAgg125,nofun⟩,⟨39,false,0,isAgg39,nofun⟩,⟨35,true,2,isAgg35,fun _=>sizeOf35⟩,⟨43,true,4,isAgg43,fun _=>sizeOf43⟩,⟨311,true,3,isAgg311,fun _=>sizeOf311⟩,⟨40,false,0,isAgg40,nofun⟩,⟨64,false,0,isAgg64,nofun⟩,⟨5,false,0,isAgg5,nofun⟩,⟨29,false,0,isAgg29,nofun⟩,⟨309,true,1,isAgg309,fun _=>sizeOf309⟩,⟨38,false,0,isAgg38,nofun⟩,⟨70,true,2,isAgg70,fun _=>sizeOf70⟩,⟨133,false,0,isAgg133,nofun⟩,⟨9,false,0,isAgg9,nofun⟩,⟨172,true,9,isAgg172,fun _=>sizeOf172⟩,⟨248,false,0,isAgg248,nofun⟩,⟨76,true,4,isAgg76,fun _=>sizeOf76⟩,⟨135,true,7,isAgg135,fun _=>sizeOf135⟩,⟨298,true,256,isAgg298,fun _=>sizeOf298⟩,⟨47,false,0,isAgg47,nofun⟩,⟨124,true,3,isAgg124,fun _=>sizeOf124⟩,⟨131,false,0,isAgg131,nofun⟩,⟨150,false,0,isAgg150,nofun⟩,⟨152,true,3,isAgg152,fun _=>sizeOf152⟩,⟨88,false,0,isAgg88,nofun⟩,⟨105,false,0,isAgg105,nofun⟩,⟨129,true,5,isAgg129,fun _=>sizeOf129⟩,⟨145,true,2,isAgg145,fun _=>sizeOf145⟩,⟨183,true,3,isAgg183,fun _=>sizeOf183⟩,⟨25,false,0,isAgg25,nofun⟩,⟨30,false,0,isAgg30,nofun⟩,⟨312,false,0,isAgg312,nofun⟩,⟨24,false,0,isAgg24,nofun⟩,⟨28,true,14,isAgg28,fun _=>sizeOf28⟩,⟨32,true,16,isAgg32,fun _=>sizeOf32⟩,⟨50,false,0,isAgg50,nofun⟩],[⟨137,0,0,kR⟩,⟨137,17,32,kR⟩,⟨137,16,31,kR⟩,⟨137,1,1,kR⟩,⟨102,0,0,kR⟩,⟨45,0,0,kR⟩,⟨102,1,1,kR⟩,⟨45,1,4,kR⟩,⟨43,1,1,kR⟩,⟨227,1,1,kR⟩,⟨137,2,2,kR⟩,⟨137,4,4,kR⟩,⟨137,14,23,kR⟩,⟨174,0,0,kR⟩,⟨300,2,257,kR⟩,⟨43,2,2,kR⟩,⟨227,0,0,kR⟩,⟨35,1,1,kR⟩,⟨76,1,1,kR⟩,⟨172,0,0,kR⟩,⟨172,5,8,kR⟩,⟨35,0,0,kR⟩,⟨43,0,0,kR⟩,⟨172,4,7,kR⟩,⟨300,3,258,kR⟩,⟨76,0,0,kR⟩,⟨137,5,5,kR⟩,⟨174,1,2,kR⟩,⟨135,0,0,kR⟩,⟨135,2,2,kR⟩,⟨250,1,1,kR⟩,⟨300,0,0,kR⟩,⟨137,9,9,kR⟩,⟨250,0,0,kR⟩,⟨311,2,2,kR⟩,⟨137,13,22,kR⟩,⟨137,6,6,kR⟩,⟨152,2,2,kR⟩,⟨43,3,3,kR⟩,⟨124,0,0,kR⟩,⟨129,1,1,kR⟩,⟨129,2,2,kR⟩,⟨129,3,3,kR⟩,⟨135,5,5,kR⟩,⟨135,6,6,kR⟩,⟨137,12,21,kR⟩,⟨137,15,30,kR⟩,⟨137,3,3,kR⟩,⟨145,0,0,kR⟩,⟨172,2,5,kR⟩,⟨174,2,3,kR⟩,⟨250,2,2,kR⟩,⟨124,1,1,kR⟩,⟨135,3,3,kR⟩,⟨135,4,4,kR⟩,⟨137,11,16,kR⟩,⟨137,7,7,kR⟩,⟨137,8,8,kR⟩,⟨172,3,6,kR⟩,⟨28,0,0,kR⟩,⟨311,0,0,kR⟩,⟨124,2,2,kR⟩,⟨129,0,0,kR⟩,⟨137,10,12,kR⟩,⟨172,1,1,kR⟩,⟨183,0,0,kR⟩,⟨32,1,14,kR⟩,⟨32,2,15,kR⟩,⟨76,2,2,kR⟩,⟨135,1,1,kR⟩,⟨152,0,0,kR⟩,⟨152,1,1,kR⟩,⟨177,2,2,kR⟩,⟨177,3,3,kR⟩,⟨183,2,2,kR⟩,⟨28,1,1,kR⟩,⟨28,2,5,kR⟩,⟨28,3,10,kR⟩,⟨28,4,11,kR⟩,⟨300,1,256,kR⟩,⟨32,0,0,kR⟩],[⟨100,137,underlying100⟩,⟨131,145,underlying131⟩,⟨133,172,underlying133⟩,⟨150,9,underlying150⟩,⟨248,127,underlying248⟩,⟨271,250,underlying271⟩,⟨29,5,underlying29⟩,⟨30,25,underlying30⟩,⟨33,3,underlying33⟩,⟨340,311,underlying340⟩,⟨38,102,underlying38⟩,⟨39,76,underlying39⟩,⟨40,70,underlying40⟩,⟨41,33,underlying41⟩,⟨47,64,underlying47⟩,⟨64,4,underlying64⟩]⟩
section
variable {N:Nat} {r:Option Nat} {Q:Exit→Env→World→Prop} {D:List Deferred} {c:Ctx} {G:Ghost} {H:List Res} {w:World} {m:Md} {ds ds':List It} {L L':List (Nat×Value)} {es:List (Nat×Nat)} {ops:Array Oper} {l:List Oper} {cd:Code}
theorem Wt (n:Nat) (hh:List Nat) (hs:St c G H w) (h:qc tb N H D n (.cd cd) [] L hh=some (m,ds',L',es)) (k:At ⟨prog,N,r⟩ m (sqs ⟨prog,N,r⟩ ds' Q) ⟨D,L'⟩ w) (he:eqs es:=by exact rfl):T ⟨prog,N,r⟩ cd Q ⟨D,L⟩ w:=oF (m:=.cd cd) (ds:=[]) hs h he k
theorem Wu (n:Nat) (hh:List Nat) (hs:St c G H w) (h:qc tb N H D n (.cd cd) ds L hh=some (m,ds',L',es)) (k:At ⟨prog,N,r⟩ m (sqs ⟨prog,N,r⟩ ds' Q) ⟨D,L'⟩ w) (he:eqs es:=by exact rfl):T ⟨prog,N,r⟩ cd (sqs ⟨prog,N,r⟩ ds Q) ⟨D,L⟩ w:=oF (m:=.cd cd) (ds:=ds) hs h he k
theorem Wo (n:Nat) (hh:List Nat) (hs:St c G H w) (h:qc tb N H D n (.op ops l) [] L hh=some (m,ds',L',es)) (k:At ⟨prog,N,r⟩ m (sqs ⟨prog,N,r⟩ ds' Q) ⟨D,L'⟩ w) (he:eqs es:=by exact rfl):O ⟨prog,N,r⟩ ops Q l ⟨D,L⟩ w:=oF (m:=.op ops l) (ds:=[]) hs h he k
theorem Wp (n:Nat) (hh:List Nat) (hs:St c G H w) (h:qc tb N H D n (.op ops l) ds L hh=some (m,ds',L',es)) (k:At ⟨prog,N,r⟩ m (sqs ⟨prog,N,r⟩ ds' Q) ⟨D,L'⟩ w) (he:eqs es:=by exact rfl):O ⟨prog,N,r⟩ ops (sqs ⟨prog,N,r⟩ ds Q) l ⟨D,L⟩ w:=oF (m:=.op ops l) (ds:=ds) hs h he k
theorem Xr {fu:Nat} {li:Array Bool} {pre:List Nat} (n hh:List Nat) (hs:St c G H w) (h:qa tb H ops D n L hh=some (L',es)) (k:A ⟨prog,N,r⟩ ops pre (St c G H) Q (fu-n.length) (qs li n) ⟨D,L'⟩ w) (he:eqs es:=by exact rfl) (ht:(qt ops pre li n&&Nat.ble n.length fu)=true:=by kernel_rfl):A ⟨prog,N,r⟩ ops pre (St c G H) Q fu li ⟨D,L⟩ w:=qa_le hs h he ht k
end
theorem TI5:TI prog 5 (.int .u8 0) 1 1:=TI.of kR
theorem tz_ok {G:Ghost} {x:Nat} (hT:Tab G) :
  Ai prog 311 [Af x] G [] fun r _ H'=>H'=[]∧r=Vi ((rM x:Nat):Int):=by
 refine Ai.of_T [(0,_)] func311 rfl ntmps311 sM rfl fun w0 hs=>?_
 have hT0:=hT
 refine Wt 8 [0] hs rfl<|Zy hs (Yc rfl (fun h4=>?_) fun h4=>?_)
 ·
  refine Wp 6 [0,0] hs rfl<|Ah<|Zz results311 rfl ?_
  exact ⟨_,[],hs.done,rfl,congrArg (Value.int .i64) (by unfold rM;rw [if_pos oM];rfl)⟩
 refine Wp 7 [0] hs rfl<|Zy hs (Y_neg64 rfl<|Zy hs (Hu rfl rfl<|Zy hs (Y_mul64 (b:=285870213051353865) rfl rfl<|Zy hs (Jp 58 dC rfl rfl<|Zy hs (Bq (tzI x) underlying378 sizeOf5 rfl rfl rfl (vG x)<|Zy hs (Yg rfl (hT _ (vG x))<|Zy hs (Dj underlying5 underlying3 (c:=((tab64.getD (tzI x) 0:Nat):Int)) rfl (Gw (by have:=vF (tzI x);omega))<|Wp 2 [0] hs rfl<|Ah<|Zz results311 rfl ?_)))))))
 exact ⟨_,[],hs.done,rfl,congrArg (Value.int .i64) (by unfold rM;rw [if_neg oM])⟩
theorem Ud {G:Ghost} {x:Nat} :
  Ai prog 282 [Af x] G [] fun r _ H'=>H'=[]∧r=Vi ((lO x:Nat):Int):=by
 refine Ai.of_T [(0,_)] func282 rfl ntmps282 sM rfl fun w0 hs =>Wt 7 [0] hs rfl<|Zy hs (Jp 1 dC rfl rfl<|Zy hs (Hu (b:=6148914691236517205) rfl rfl<|Wp 1 [] hs rfl<|Zy hs (Hu (b:=6148914691236517205) rfl rfl<|Zy hs (Pa rfl rfl<|Wp 5 [0] hs rfl<|Zy hs (Jp 2 dC rfl rfl<|Zy hs (Hu (b:=3689348814741910323) rfl rfl<|Wp 1 [] hs rfl<|Zy hs (Hu (b:=3689348814741910323) rfl rfl<|Zy hs (Pa rfl rfl<|Wp 5 [0] hs rfl<|Zy hs (Jp 4 dC rfl rfl<|Wp 1 [] hs rfl<|Zy hs (Pa rfl rfl<|Zy hs (Hu (b:=1085102592571150095) rfl rfl<|Wp 6 [1,0] hs rfl<|Zy hs (Jp 8 dC rfl rfl<|Zy hs (Pa rfl rfl<|Wp 6 [0] hs rfl<|Zy hs (Jp 16 dC rfl rfl<|Zy hs (Pa rfl rfl<|Wp 6 [0] hs rfl<|Zy hs (Jp 32 dC rfl rfl<|Zy hs (Pa rfl rfl<|Wp 5 [0] hs rfl<|Zy hs (Dj underlying125 underlying3 (c:=((rN x:Nat):Int)) rfl (Gw (by have:=pop6_lt x;exact ⟨by omega,by show (rN x:Int)≤_;omega⟩))<|Zy hs (Xi rfl rfl sM (and127 (rN x))<|Wp 2 [0] hs rfl<|Ah<|Zz results282 rfl ?_)))))))))))))))))))
 exact ⟨_,[],hs.done,rfl,rfl⟩
theorem size_ok {G:Ghost} {c:List Nat} (hc:c.length=4) :
  Ai prog 245 [Gm c] G [] fun r _ H'=>H'=[]∧r=Vi ((Mx c:Nat):Int):=by
 refine Ai.of_T [(0,_)] func245 rfl ntmps245 sM rfl fun w0 hs =>Wt 2 [] hs rfl<|O_s (Dw hs rfl (cs:=(List.map Af c)) rfl fun b1 _ hs =>Wp 9 [0,0] hs rfl<|Zy hs (Yk 0 rfl Kn<|Wp 2 [0] hs rfl<|Zl [3,6,7] (fun m E w=>∃ (k:Nat) (G':Ghost),k≤4∧m=4-k∧E=⟨[],[(3,Vi ((Mx (c.take k):Nat):Int)),(6,(Gm c)),(7,Vi (k:Int))]⟩∧St ⟨w0,G,Bl []⟩ G' [.blk b1 127 (List.map Af c)] w) rfl (⟨0,_,by omega,rfl,rfl,hs⟩) fun m E w hI=>?_))
 obtain ⟨k,G',hk,rfl,rfl,hs⟩:=hI
 refine Wt 2 [] hs rfl<|Zy hs (Yc rfl (fun h8=>?_) fun h8=>?_)
 ·
  refine Wp 8 [0] hs rfl<|Zy hs (Rn (vs:=List.map Af c) (v:=Af c[k]) k underlying127 isAgg125 sizeOf125 rfl rfl rfl oM (by rw [List.getElem?_map,List.getElem?_eq_getElem oM];rfl) ?_)
  refine Wp 5 [0] hs rfl<|O_s (Sc (Ud) hs rfl fun v1 G' H' _ hR hG12 hs=>?_)
  obtain ⟨rfl,rfl⟩:=hR
  replace hs:=hs.n rfl
  refine Zy hs (Eb (c:=((Mx (c.take k)+lO c[k]:Nat):Int)) rfl rfl oM (by have h1:=vI (c.take k);have:=oH c[k];rw [List.length_take] at h1;omega)<|Wp 3 [0] hs rfl<|Zy hs (Ya (s:=((k+1:Nat):Int)) rfl<|Wp 1 [] hs rfl<|Zx [3,6,7] rfl ⟨k+1,_,by omega,rfl,by rw [lP c k oM],hs⟩))
 refine Wp 4 [0] hs rfl<|Wu 5 [0] hs rfl<|Ah<|Zz results245 rfl ?_
 obtain rfl:k=4:=by omega
 exact ⟨_,[],hs.done,rfl,by rw [List.take_of_length_le oM]⟩
theorem add_ok {G:Ghost} {p:Nat} {c:List Nat} {x:UInt8} (hc:c.length=4) :
  Ai prog 333 [Vp p,.int .u8 (x.toNat:Int)] G [.blk p 127 (c.map Af)] fun _ _ H'=>H'=[.blk p 127 ((Ig c x).map Af)]:=by
 have hx:=x.toNat_lt
 have hcell:(c.map Af)[x.toNat / 64]?=some (Af (c.getD (x.toNat / 64) 0)):=by rw [List.getElem?_map,List.getElem?_eq_getElem oM,List.getD_eq_getElem?_getD,List.getElem?_eq_getElem oM];rfl
 refine Ai.of_T [(0,_),(1,_)] func333 rfl ntmps333 sM rfl fun w0 hs =>Bc [0,1,2,3,4,5,6,7,8,9,10,11] hs kR ?_
 replace hs:=hs.drew
 refine Xr [0,1] [] hs rfl<|Xt 2 hs rfl (uG (c:=((x.toNat / 64:Nat):Int)) rfl rfl oM oM oM<|Xt 3 hs rfl (Fi rfl<|Xt 4 hs rfl (Bq (x.toNat / 64) underlying127 sizeOf125 rfl rfl rfl oM<|Xt 5 hs rfl (Db 0 isAgg125 rfl rfl hcell<|Xr [6] [] hs rfl<|Xt 7 hs rfl (Er (c:=((x.toNat % 64:Nat):Int)) rfl rfl oM oM oM<|Xt 8 hs rfl (eH (x.toNat % 64) oM rfl rfl<|Xt 9 hs rfl (Tw rfl rfl<|Xt 10 hs rfl (Fi rfl<|Xt 11 hs rfl (Bq (x.toNat / 64) underlying127 sizeOf125 rfl rfl rfl oM<|Xn 12 rfl (Hs hs sizeOf125 rfl rfl rfl kZ (cs':=(Ig c x).map Af) (by unfold Ig;rw [List.map_set]) fun _ hs =>Qh kR (Ez (vs:=[]) results333 rfl trivial ?_)))))))))))
 try dsimp only [tup]
 exact ⟨_,_,hs,rfl⟩
theorem vT {G:Ghost} {v:Value} {l:List UInt8} (hb:Cv G v l) (hl:l.length≤1000000000) :
  Ai prog 309 [v] G [] fun r _ H'=>H'=[]∧r=Gm (kP l):=by
 obtain ⟨A,cap,rfl,_⟩:=id hb
 refine Ai.of_T [(0,_)] func309 rfl ntmps309 sM rfl fun w0 hs=>?_
 have hb0:=hb
 refine Wt 2 [] hs rfl<|O_s (Bd hs zeroValue127 (cs:=(List.map Af [0,0,0,0])) rfl fun b2 _ hs =>Wp 3 [0] hs rfl<|O_s (Bd hs zeroValue127 (cs:=(List.map Af [0,0,0,0])) rfl fun b3 _ hs =>Wp 8 [0,0] hs rfl<|Zl [2,3,6,7,8] (fun m E w=>∃ (k:Nat) (G':Ghost),k≤l.length∧m=l.length-k∧E=⟨[],[(2,Vp b2),(3,Vp b3),(6,(.slice A l.length cap)),(7,Vi ((l.length:Nat):Int)),(8,Vi (k:Int))]⟩∧St ⟨w0,G,Bl []⟩ G' [.blk b3 127 (List.map Af (kP (l.take k))),.blk b2 127 (List.map Af [0,0,0,0])] w) rfl (⟨0,_,by omega,rfl,rfl,hs⟩) fun m E w hI=>?_))
 obtain ⟨k,G',hk,rfl,rfl,hs⟩:=hI
 have hb:=hb0.mono hs.le
 have h4:=Me (l.take k)
 refine Wt 2 [] hs rfl<|Zy hs (Yc rfl (fun h9=>?_) fun h9=>?_)
 ·
  refine Wp 8 [0] hs rfl<|Zy hs (eG hb k underlying29 sizeOf5 rfl rfl rfl oM fun p10 hp10 =>Zy hs (Yg rfl (hp10)<|Wp 4 [0] hs rfl<|O_s (Sc (add_ok (x:=l[k]) (Me _)) hs rfl fun v1 G' H' _ hR hG13 hs=>?_)))
  obtain rfl:=hR
  replace hs:=hs.n rfl
  refine Wp 2 [0] hs rfl<|Zy hs (Ya (s:=((k+1:Nat):Int)) rfl<|Wp 1 [] hs rfl<|Zx [2,3,6,7,8] rfl ⟨k+1,_,by omega,rfl,rfl,by unfold kP;rw [Dc _ _ l k oM];exact hs⟩)
 refine Wp 4 [0] hs rfl<|Wu 2 [] hs rfl<|Zy hs (Yk 0 rfl Kn<|O_n (Sw hs.f1 rfl (vs:=(List.map Af (kP (l.take k)))) Kn Kn (Df _) fun _ hs=>Wp 1 [0] hs rfl<|Ah ?_))
 have hr:=hs
 refine Bi (vs:=[_]) results309 rfl ⟨Bk 0 hr isAgg127 sizeOf127 rfl (cs:=(List.map Af (kP (l.take k)))) rfl Kn,trivial⟩ ?_
 try dsimp only [tup]
 obtain rfl:k=l.length:=by omega
 exact ⟨_,[],hs.done,rfl,by rw [List.take_length];rfl⟩
theorem Wh {G : Ghost} {a b : List Nat} {gf : Nat} {fnn : Func} {op : Nat → Nat → Nat} (ha : a.length = 4) (hb : b.length = 4) (hfn : prog.funcs[gf]? = some fnn) (hbd : fnn.body.isSome = true) (hnm : (fnn.name == "runtime.NumGoroutine") = false) (hg : ∀ (G' : Ghost) (x y : Nat), Ai prog gf [Af x, Af y] G' [] fun r _ H' => H' = [] ∧ r = Af (op x y)) :
  Ai prog 304 [Gm a,Gm b,.func (.func gf) #[] #[]] G [] fun r _ H'=>H'=[]∧r=Gm (List.zipWith op a b):=by
 refine Ai.of_T [(0,_),(1,_),(2,_)] func304 rfl ntmps304 sM rfl fun w0 hs =>Wt 2 [] hs rfl<|O_s (Dw hs rfl (cs:=(List.map Af a)) rfl fun b3 _ hs =>O_s (Dw hs rfl (cs:=(List.map Af b)) rfl fun b4 _ hs =>O_s (Bd hs zeroValue127 (cs:=(List.map Af [0,0,0,0])) rfl fun b6 _ hs =>Wp 3 [0] hs rfl<|O_s (Bd hs zeroValue127 (cs:=(List.map Af [0,0,0,0])) rfl fun b7 _ hs =>Wp 6 [0,0] hs rfl<|Zl [2,3,4,6,7,9] (fun m E w=>∃ (k:Nat) (G':Ghost),k≤4∧m=4-k∧E=⟨[],[(2,.func (.func gf) #[] #[]),(3,Vp b3),(4,Vp b4),(6,Vp b6),(7,Vp b7),(9,Vi (k:Int))]⟩∧St ⟨w0,G,Bl []⟩ G' [.blk b7 127 (List.map Af ((List.zipWith op a b).take k++List.replicate (4-k) 0)),.blk b6 127 (List.map Af [0,0,0,0]),.blk b4 127 (List.map Af b),.blk b3 127 (List.map Af a)] w) rfl (⟨0,_,by omega,rfl,rfl,by simpa using hs⟩) fun m E w hI=>?_))))
 obtain ⟨k,G',hk,rfl,rfl,hs⟩:=hI
 refine Wt 2 [] hs rfl<|Zy hs (Yc rfl (fun h10=>?_) fun h10=>?_)
 ·
  refine Wp 11 [0,0] hs rfl<|Bc [0,1,2,3,4,5,6,7,8,9] hs kR ?_
  replace hs:=hs.drew
  refine Xr [0,1,2] [] hs rfl<|Xt 3 hs rfl (Bq k underlying127 sizeOf125 rfl rfl rfl oM<|Xt 4 hs rfl (Db 3 isAgg125 rfl rfl (eN a k oM)<|Xr [5] [] hs rfl<|Xt 6 hs rfl (Bq k underlying127 sizeOf125 rfl rfl rfl oM<|Xt 7 hs rfl (Db 2 isAgg125 rfl rfl (eN b k oM) ?_))))
  have hle:=hs.le
  refine Xo 8 rfl (Cb (args:=[_,_]) (lb:=[]) (H1:=[]) hs rfl rfl hfn hbd hnm (hg _ _ _) fun v1 G' H' _ hR hG20 hs=>?_)
  obtain ⟨rfl,rfl⟩:=hR
  replace hs:=hs.n rfl
  refine Am hs hle hG20 (lSr _)<|Xt 9 hs rfl (Bq k underlying127 sizeOf125 rfl rfl rfl oM<|Xn 10 rfl (Hs hs sizeOf125 rfl rfl rfl (by simp only [List.length_map,List.length_append,List.length_take,List.length_replicate,List.length_zipWith];omega) (cs':=_) rfl fun _ hs =>Xe (Zk [2,3,4,6,7,9] rfl ?_)))
  refine Zr<|Zy hs (Ya (s:=((k+1:Nat):Int)) rfl<|Wp 1 [] hs rfl<|Zx [2,3,4,6,7,9] rfl ⟨k+1,_,by omega,rfl,rfl,by rw [vK op a b k oM oM oM] at hs;exact hs⟩)
 refine Wp 4 [0] hs rfl<|Wu 2 [] hs rfl<|Zy hs (Yk 0 rfl Kn<|O_n (Sw hs.f1 rfl (vs:=(List.map Af ((List.zipWith op a b).take k++List.replicate (4 - k) 0))) Kn Kn (Df _) fun _ hs=>Wp 1 [0] hs rfl<|Ah ?_))
 have hr:=hs
 refine Bi (vs:=[_]) results304 rfl ⟨Bk 0 hr isAgg127 sizeOf127 rfl (cs:=(List.map Af ((List.zipWith op a b).take k++List.replicate (4-k) 0))) rfl Kn,trivial⟩ ?_
 try dsimp only [tup]
 obtain rfl:k=4:=by omega
 exact ⟨_,[],hs.done,rfl,by show Gm _=_;rw [Nat.sub_self,List.replicate_zero,List.append_nil,List.take_of_length_le (by rw [List.length_zipWith];omega)]⟩
theorem not1_ok {G:Ghost} {x y:Nat} :
  Ai prog 305 [Af x,Af y] G [] fun r _ H'=>H'=[]∧r=Af (Mw 18446744073709551615 x):=by
 refine Ai.of_T [(0,_),(1,_)] func305 rfl ntmps305 sM rfl fun w0 hs =>Wt 7 [0] hs rfl<|Zy hs (qX rfl<|Wp 2 [0] hs rfl<|Ah<|Zz results305 rfl ?_)
 exact ⟨_,[],hs.done,rfl,rfl⟩
theorem int1_ok {G:Ghost} {x y:Nat} :
  Ai prog 306 [Af x,Af y] G [] fun r _ H'=>H'=[]∧r=Af (Ei x y):=by
 refine Ai.of_T [(0,_),(1,_)] func306 rfl ntmps306 sM rfl fun w0 hs =>Wt 8 [0] hs rfl<|Zy hs (Hu rfl rfl<|Wp 2 [0] hs rfl<|Ah<|Zz results306 rfl ?_)
 exact ⟨_,[],hs.done,rfl,rfl⟩
theorem uni1_ok {G:Ghost} {x y:Nat} :
  Ai prog 312 [Af x,Af y] G [] fun r _ H'=>H'=[]∧r=Af (Xv x y):=by
 refine Ai.of_T [(0,_),(1,_)] func312 rfl ntmps312 sM rfl fun w0 hs =>Wt 8 [0] hs rfl<|Zy hs (Tw rfl rfl<|Wp 2 [0] hs rfl<|Ah<|Zz results312 rfl ?_)
 exact ⟨_,[],hs.done,rfl,rfl⟩
theorem vU {G:Ghost} {c:List Nat} (hc:c.length=4) :
  Ai prog 274 [Gm c] G [] fun r _ H'=>H'=[]∧r=Gm (Je c):=by
 have hn:=Zd hc
 refine Ai.of_T [(0,_)] func274 rfl ntmps274 sM rfl fun w0 hs =>Wt 2 [] hs rfl<|O_s (Dw hs rfl (cs:=(List.map Af c)) rfl fun b1 _ hs =>O_s (Bd hs zeroValue127 (cs:=(List.map Af [0,0,0,0])) rfl fun b2 _ hs =>Wp 3 [0] hs rfl<|Zy hs (Yk 1 rfl Kn<|Zy hs (Yk 1 rfl Kn<|O_s (Sc (Wh hc hc func305 rfl kR (fun _ _ _=>not1_ok)) hs rfl fun v1 G' H' _ hR hG5 hs=>?_)))))
 obtain ⟨rfl,rfl⟩:=hR
 replace hs:=hs.n rfl
 refine O_n (Sw hs rfl (vs:=(List.map Af (Je c))) Kn Kn (Df _) fun _ hs=>Wp 1 [0] hs rfl<|Ah ?_)
 have hr:=hs
 refine Bi (vs:=[_]) results274 rfl ⟨Bk 0 hr isAgg127 sizeOf127 rfl (cs:=(List.map Af (Je c))) rfl Kn,trivial⟩ ?_
 try dsimp only [tup]
 exact ⟨_,[],hs.done,rfl,rfl⟩
theorem iN {G:Ghost} {a b:List Nat} (ha:a.length=4) (hb:b.length=4) :
  Ai prog 275 [Gm a,Gm b] G [] fun r _ H'=>H'=[]∧r=Gm (Gz a b):=by
 have hn:=Mf ha hb
 refine Ai.of_T [(0,_),(1,_)] func275 rfl ntmps275 sM rfl fun w0 hs =>Wt 2 [] hs rfl<|O_s (Dw hs rfl (cs:=(List.map Af a)) rfl fun b2 _ hs =>O_s (Dw hs rfl (cs:=(List.map Af b)) rfl fun b3 _ hs =>O_s (Bd hs zeroValue127 (cs:=(List.map Af [0,0,0,0])) rfl fun b4 _ hs =>Wp 3 [0] hs rfl<|Zy hs (Yk 2 rfl Kn<|Zy hs (Yk 1 rfl Kn<|O_s (Sc (Wh ha hb func306 rfl kR (fun _ _ _=>int1_ok)) hs rfl fun v1 G' H' _ hR hG7 hs=>?_))))))
 obtain ⟨rfl,rfl⟩:=hR
 replace hs:=hs.n rfl
 refine O_n (Sw hs rfl (vs:=(List.map Af (Gz a b))) Kn Kn (Df _) fun _ hs=>Wp 1 [0] hs rfl<|Ah ?_)
 have hr:=hs
 refine Bi (vs:=[_]) results275 rfl ⟨Bk 0 hr isAgg127 sizeOf127 rfl (cs:=(List.map Af (Gz a b))) rfl Kn,trivial⟩ ?_
 try dsimp only [tup]
 exact ⟨_,[],hs.done,rfl,rfl⟩
theorem Sf {G:Ghost} {a b:List Nat} (ha:a.length=4) (hb:b.length=4) :
  Ai prog 284 [Gm a,Gm b] G [] fun r _ H'=>H'=[]∧r=Gm (Fz a b):=by
 have hn:=Mh ha hb
 refine Ai.of_T [(0,_),(1,_)] func284 rfl ntmps284 sM rfl fun w0 hs =>Wt 2 [] hs rfl<|O_s (Dw hs rfl (cs:=(List.map Af a)) rfl fun b2 _ hs =>O_s (Dw hs rfl (cs:=(List.map Af b)) rfl fun b3 _ hs =>O_s (Bd hs zeroValue127 (cs:=(List.map Af [0,0,0,0])) rfl fun b4 _ hs =>Wp 3 [0] hs rfl<|Zy hs (Yk 2 rfl Kn<|Zy hs (Yk 1 rfl Kn<|O_s (Sc (Wh ha hb func312 rfl kR (fun _ _ _=>uni1_ok)) hs rfl fun v1 G' H' _ hR hG7 hs=>?_))))))
 obtain ⟨rfl,rfl⟩:=hR
 replace hs:=hs.n rfl
 refine O_n (Sw hs rfl (vs:=(List.map Af (Fz a b))) Kn Kn (Df _) fun _ hs=>Wp 1 [0] hs rfl<|Ah ?_)
 have hr:=hs
 refine Bi (vs:=[_]) results284 rfl ⟨Bk 0 hr isAgg127 sizeOf127 rfl (cs:=(List.map Af (Fz a b))) rfl Kn,trivial⟩ ?_
 try dsimp only [tup]
 exact ⟨_,[],hs.done,rfl,rfl⟩
theorem vV {G:Ghost} {c:List Nat} {x:UInt8} (hc:c.length=4) :
  Ai prog 246 [Gm c,.int .u8 (x.toNat:Int)] G [] fun r _ H'=>H'=[]∧r=.bool (Vv c x):=by
 have hx:=x.toNat_lt
 have hcell:(c.map Af)[x.toNat / 64]?=some (Af (c.getD (x.toNat / 64) 0)):=by rw [List.getElem?_map,List.getElem?_eq_getElem oM,List.getD_eq_getElem?_getD,List.getElem?_eq_getElem oM];rfl
 refine Ai.of_T [(0,_),(1,_)] func246 rfl ntmps246 sM rfl fun w0 hs =>Wt 2 [] hs rfl<|O_s (Dw hs rfl (cs:=(List.map Af c)) rfl fun b2 _ hs =>Wp 5 [0] hs rfl<|Zy hs (uG (c:=((x.toNat / 64:Nat):Int)) rfl rfl oM oM oM<|Zy hs (Bq (x.toNat / 64) underlying127 sizeOf125 rfl rfl rfl oM<|Zy hs (Db 0 isAgg125 rfl rfl hcell<|Wp 1 [] hs rfl<|Zy hs (Er (c:=((x.toNat % 64:Nat):Int)) rfl rfl oM oM oM<|Zy hs (eH (x.toNat % 64) oM rfl rfl<|Zy hs (Hu rfl rfl<|Zy hs (Qi (t:=Vv c x) rfl rfl rfl (has_iff c x)<|Wp 2 [0] hs rfl<|Ah<|Zz results246 rfl ?_))))))))
 exact ⟨_,[],hs.done,rfl,rfl⟩
theorem oL {G:Ghost} {c:List Nat} (hc:c.length=4) :
  Ai prog 283 [Gm c] G [] fun r G' H'=>H'=[]∧∃ b,r=.func (.func 310) #[] #[Vp b]∧Qa G' b c:=by
 refine Ai.of_T [(0,_)] func283 rfl ntmps283 sM rfl fun w0 hs =>Wt 2 [] hs rfl<|O_s (Dw hs rfl (cs:=(List.map Af c)) rfl fun b1 _ hs =>Wp 4 [0] hs rfl<|Zy hs (Dn (vs:=[_]) rfl<|Wp 2 [0] hs rfl<|Ah<|Zz results283 rfl ?_))
 obtain ⟨G',hG,hf,hs3⟩:=hs.fixBlk (fun k _=>Ht k)
 exact ⟨G',[],hs3,rfl,_,rfl,hf⟩
theorem mem1_ok {lp b:Nat} {G:Ghost} {c:List Nat} {H0:List Res} {J:Nat→Ghost→List Res→Prop} (hcb:Qa G b c) (hc:c.length=4) (hw:∀ w∈c,w<W64) (hT:Tab G) (hJm:∀ n G1 G2 H,Ghost.le G1 G2→J n G1 H→J n G2 H)
  (hY:∀ n a G' H',(Bu c)[n]?=some a→G.le G'→J n G' H'→Dm prog lp [.int .u8 (a.toNat:Int)] G' H' fun r G'' H''=>r=Vt∧J (n+1) G'' H'') (hJ0:J 0 G H0) :
  Ai prog 310 [.func (.yield lp) #[] #[],Vp b] G H0 fun _ G' H'=>J (Bu c).length G' H':=by
 refine Ai.of_T [(0,_),(1,_)] func310 rfl ntmps310 sM rfl fun w0 hs=>?_
 have hcb0:=hcb
 have hT0:=hT
 refine Wt 2 [] hs rfl<|Zy hs (Cu (vs:=List.map Af c) isAgg127 sizeOf127 rfl hcb.whole (by rw [List.length_map,hc])<|Wp 2 [0] hs rfl<|Zl [0,5,6] (fun m E w=>∃ (k n:Nat) (G':Ghost) (H':List Res),k≤4∧(Bu c).drop n=La k (c.drop k)∧n≤(Bu c).length∧J n G' H'∧m=4-k∧E=⟨[],[(0,.func (.yield lp) #[] #[]),(5,(Gm c)),(6,Vi (k:Int))]⟩∧St ⟨w0,G,Bl H0⟩ G' H' w) rfl (⟨0,0,_,_,by omega,rfl,by omega,hJ0,rfl,rfl,hs⟩) fun m E w hI=>?_)
 obtain ⟨k,n,G',H',hk,hd,hnl,hJ,rfl,rfl,hs⟩:=hI
 have hcb:=hcb0.mono hs.le
 have hT:=hT0.mono hs.le
 refine Wt 2 [] hs rfl<|Zy hs (Yc rfl (fun h7=>?_) fun h7=>?_)
 ·
  refine Wp 9 [0] hs rfl<|Zy hs (Rn (vs:=List.map Af c) (v:=Af c[k]) k underlying127 isAgg125 sizeOf125 rfl rfl rfl oM (eN c k oM)<|Wp 3 [0] hs rfl ?_)
  have hwk:=hw c[k] (List.getElem_mem (show k<c.length by omega))
  rw [List.drop_eq_getElem_cons (show k<c.length by omega),La] at hd
  refine Zl [0,3,4,5,6] (fun m E w=>∃ (n f wd:Nat) (G':Ghost) (H':List Res),(Bu c).drop n=Vw k f wd++La (k+1) (c.drop (k+1))∧wd≤f∧wd<W64∧n≤(Bu c).length∧J n G' H'∧m=wd∧E=⟨[],[(0,.func (.yield lp) #[] #[]),(3,Vi (k:Int)),(4,Af wd),(5,(Gm c)),(6,Vi (k:Int))]⟩∧St ⟨w0,G,Bl H0⟩ G' H' w) rfl (⟨n,c[k],c[k],_,_,hd,Nat.le_refl _,hwk,hnl,hJ,rfl,rfl,hs⟩) fun m E w hI=>?_
  obtain ⟨n,f,wd,G',H',hd,hwf,hww,hnl,hJ,hmw,rfl,hs⟩:=hI
  have hcb:=hcb0.mono hs.le
  have hT:=hT0.mono hs.le
  refine Wt 4 [] hs rfl<|Zy hs (Yc rfl (fun h11=>?_) fun h11=>?_)
  ·
   obtain ⟨f,rfl⟩:∃ q,f=q+1:=⟨f-1,by omega⟩
   rw [Vw,if_neg oM,List.cons_append] at hd
   obtain ⟨hn,hst,hd⟩:=vL hd
   replace hst:(Bu c)[n]?=some (UInt8.ofNat (64*k+rM wd)):=by rw [List.getElem?_eq_getElem hn,hst]
   have htz:=vH wd
   refine Wp 9 [0] hs rfl<|Zy hs (Xh (c:=((64*k:Nat):Int)) rfl rfl oM oM<|Wp 1 [] hs rfl<|O_s (Et (H1:=[]) (H:=H') hs rfl func311 rfl kR (tz_ok hT) fun v1 G' H' _ hR hG16 hs=>?_))
   obtain ⟨rfl,rfl⟩:=hR
   replace hs:St _ _ H' _:=hs
   replace hJ:=hJm _ _ _ _ hG16 hJ
   refine Zy hs (Ya (s:=((64*k+rM wd:Nat):Int)) rfl<|Zy hs (Dj underlying3 underlying5 (c:=((UInt8.ofNat (64*k+rM wd)).toNat:Int)) rfl (Jf _)<|O_s (nT (H1:=H') (H:=[]) Z37 rfl rfl (hY n _ _ _ hst hs.le hJ) fun v G'' H'' w' hR hG19 hs=>?_)))
   obtain ⟨rfl,hJ⟩:=hR
   rw [List.append_nil] at hs
   refine Wp 7 [0] hs rfl<|Zy hs (Y_sub64 (b:=1) rfl rfl<|Zy hs (Hu rfl rfl<|Wp 1 [] hs rfl ?_))
   have h1:=Rw wd (Lj wd 1)
   rw [Wg oM hww] at h1
   refine Cl ⟨_,?_,[(0,_),(3,_),(4,_),(5,_),(6,_)],⟨rfl,rfl,rfl,rfl,rfl,trivial⟩,⟨n+1,f,_,_,_,hd,by rw [Wg oM hww];omega,Nv _ _,by omega,hJ,rfl,rfl,hs⟩⟩
   rw [Wg oM hww];omega
  refine Wp 3 [0] hs rfl ?_
  refine Zr<|Zy hs (Ya (s:=((k+1:Nat):Int)) rfl<|Wp 1 [] hs rfl ?_)
  obtain rfl:wd=0:=by omega
  rw [dA,List.nil_append] at hd
  refine Zx [0,5,6] rfl ⟨k+1,n,_,_,by omega,hd,hnl,hJ,rfl,rfl,hs⟩
 refine Wp 4 [0] hs rfl ?_
 try dsimp only [Ex.At,Ex.sqs,Ex.sq,Ex.lp,Ex.bk]
 try rw [show Nat.beq _ _=true from Nat.beq_refl _,cond_true]
 refine Ez (vs:=[]) results310 rfl trivial ?_
 try dsimp only [tup]
 obtain rfl:k=4:=by omega
 rw [List.drop_eq_nil_of_le (by omega:c.length≤4)] at hd
 have hn:=List.drop_eq_nil_iff.1 hd
 obtain rfl:n=(Bu c).length:=by omega
 exact ⟨_,_,hs,hJ⟩
theorem aseq_ok {b:Nat} {G:Ghost} {c:List Nat} (hcb:Qa G b c) (hc:c.length=4) (hw:∀ w∈c,w<W64) (hT:Tab G) :
  Ai prog 334 [Vn,.func (.func 310) #[] #[Vp b]] G [] fun r G' H'=>H'=[]∧Cv G' r (Bu c):=by
 have hbl:=Zi hc hw
 refine Ai.of_TM [(0,_),(1,_)] func334 rfl ntmps334 sM rfl fun w0 hs =>Wt 2 [] hs rfl<|O_s (Sb hs rfl fun b2 _ hs=>Wp 7 [0,0] hs rfl ?_)
 have hs:=hs.nilRow 5 1
 have hs:=hs.f1.f1
 refine Wu 1 [] hs rfl<|Nu (H1:=[_,_]) (H:=[]) (R:=fun G' H2=>∃ (v:Value),H2=[.row 5 1 v (Bu c).length (((Bu c).take (Bu c).length).map Kc),.blk b2 29 [v]]) hs rfl func310 rfl kR ?hit ?done
 case hit =>
  intro lp D rec hp ha hbd hst hpe hAg
  obtain ⟨state,pending,fn',tmps,params,assign,body,defers⟩:=rec
  dsimp only at hp ha hbd hst hpe hAg
  subst hst hpe
  refine Ai.mono (mem1_ok (lp:=lp) (J:=fun n G' H'=>n≤(Bu c).length∧∃ (v:Value),H'=[.obj lp (.loop { state:=.ready,pending:=none,fn:=fn',tmps:=tmps,params:=params,assign:=assign,body:=body,defers:=defers }),.obj D (.deferred (some [])),.row 5 1 v n (((Bu c).take n).map Kc),.blk b2 29 [v]]) hcb hc hw hT (fun _ _ _ _ _ h=>h) ?round ⟨by omega,_,rfl⟩) ?fin
  case fin =>
   rintro r G' H' _ ⟨_,v,rfl⟩
   exact ⟨_,rfl,v,rfl⟩
  rintro n a G' H' hst hle ⟨hnl,v7,rfl⟩
  obtain ⟨hn,ha'⟩:=List.getElem?_eq_some_iff.1 hst
  subst hp ha hbd
  refine Dm.of_T hAg rfl rfl sM rfl fun w1 hs =>Wt 2 [] hs rfl<|Cl ⟨hs,fun w2 hs=>?_⟩
  refine Wt 4 [3] hs rfl<|O_s (Ca hs underlying29 sizeOf5 zeroValue5 rfl rfl dC dC rfl (cs:=[_]) rfl rfl fun v1 _ hs _=>?_)
  obtain ⟨_,hG10,hl10,hs⟩:=hs.fixRow (noMh hs ⟨fun _ h=>h,fun _ h=>h,fun _ h=>h,fun _ h=>h,trivial⟩)
  refine O_s (Bf hs.f2 underlying29 TI5 rfl dC rfl rfl (hl10) (Fj rfl) oM oM fun v2 _ hs =>O_n (Sd hs.f3 rfl (hs.f3.rowOne 1 rfl) fun _ hs=>?_))
  have hs:=hs.f1.f3.f3
  refine Cl ⟨_,_,hs,rfl,hn,v2,?_⟩
  rw [bY _ n hn,ha']
 case done =>
  rintro lp D o' G' H2 w' ⟨v7,rfl⟩ hle hs
  refine Wt 5 [3,0] hs rfl<|Ah<|nV hs (vs:=[_]) results334 rfl (fun _ hs=>⟨⟨rfl,trivial⟩,?_⟩)
  try dsimp only [tup]
  have hs:=hs.f1
  obtain ⟨G',hG,hf,hs3⟩:=hs.fixRow noM
  exact ⟨G',[],hs3.done,rfl,Cv.ofSl hf rfl (by rw [List.take_length])⟩
theorem coll_ok {b:Nat} {G:Ghost} {c:List Nat} (hcb:Qa G b c) (hc:c.length=4) (hw:∀ w∈c,w<W64) (hT:Tab G) :
  Ai prog 313 [.func (.func 310) #[] #[Vp b]] G [] fun r G' H'=>H'=[]∧Cv G' r (Bu c):=by
 refine Ai.of_T [(0,_)] func313 rfl ntmps313 sM rfl fun w0 hs=>?_
 have hcb0:=hcb
 have hT0:=hT
 refine Wt 7 [0] hs rfl<|O_s (Sc (aseq_ok hcb hc hw hT) hs rfl fun v1 G' H' _ hR hG4 hs=>?_)
 obtain ⟨rfl,hb⟩:=hR
 replace hs:=hs.n rfl
 refine Wp 2 [0] hs rfl<|Ah<|Zz results313 rfl ?_
 exact ⟨_,[],hs.done,rfl,hb⟩
theorem vW {G:Ghost} {c:List Nat} (hc:c.length=4) (hw:∀ w∈c,w<W64) (hT:Tab G) :
  Ai prog 285 [Gm c] G [] fun r G' H'=>H'=[]∧Cv G' r (Bu c):=by
 refine Ai.of_T [(0,_)] func285 rfl ntmps285 sM rfl fun w0 hs=>?_
 have hT0:=hT
 refine Wt 2 [] hs rfl<|O_s (Dw hs rfl (cs:=(List.map Af c)) rfl fun b1 _ hs =>Wp 4 [0] hs rfl<|Zy hs (Yk 0 rfl Kn<|O_s (Sc (oL hc) hs rfl fun v1 G' H' _ hR hG4 hs=>?_)))
 obtain ⟨rfl,b,rfl,hcb⟩:=hR
 replace hs:=hs.n rfl
 replace hT:=hT.mono hG4
 refine O_s (Sc (coll_ok hcb hc hw hT) hs rfl fun v2 G' H' _ hR hG5 hs=>?_)
 obtain ⟨rfl,hb⟩:=hR
 replace hs:=hs.n rfl
 refine Wp 2 [0] hs rfl<|Ah<|Zz results285 rfl ?_
 exact ⟨_,[],hs.done,rfl,hb⟩
theorem vX:TI prog 127 (.agg #[.int .u64 0,.int .u64 0,.int .u64 0,.int .u64 0]) 4 32:=TI.of kR
theorem Lb:TI prog 3 (Vi 0) 1 8:=TI.of kR
theorem oN:TI prog 4 (Vf) 1 1:=TI.of kR
def Ji (n:Nat):Value:=Vi (n:Int)
abbrev Cm (n:Nat):Value:=Vi (n:Int)
def Bb (b:Bool):Value:=.bool b
def Hq (G:Ghost) (v:Value) (l:List Bool):Prop:=Sl G v 1 l.length (l.map Bb)
theorem Hq.mono {G G':Ghost} (h:G.le G') {v:Value} {l:List Bool} (hb:Hq G v l):Hq G' v l:=Sl.mono h hb
def NatsR (G:Ghost) (c:List Value) (l:List Nat):Prop:=∃ v,c=[v]∧Cr G v l
def LN (G:Ghost) (v:Value) (l:List (List Nat)):Prop:=Be 1 NatsR G v l
theorem LN.mono {G G':Ghost} (h:G.le G') {v:Value} {l:List (List Nat)} (hl:LN G v l):LN G' v l:=Be.mono (fun _ _ ⟨v,e,hn⟩=>⟨v,e,hn.mono h⟩) h hl
def Cg (cell:List Nat) (n:Nat) (vn va:Value):List Value:=cell.map Ji++[Vi (n:Int),vn,va]
theorem tabC_1 {cell:List Nat} {n:Nat} {vn va:Value} (h:cell.length=256):(Cg cell n vn va)[256]?=some (Vi (n:Int)):=by
  unfold Cg;rw [List.getElem?_append_right kZ,List.length_map,h];rfl
theorem Jj {cell:List Nat} {n:Nat} {vn va:Value} (h:cell.length=256):(Cg cell n vn va)[257]?=some vn:=by
  unfold Cg;rw [List.getElem?_append_right kZ,List.length_map,h];rfl
theorem Uh {cell:List Nat} {n:Nat} {vn va:Value} (h:cell.length=256):(Cg cell n vn va)[258]?=some va:=by
  unfold Cg;rw [List.getElem?_append_right kZ,List.length_map,h];rfl
theorem aC {cell:List Nat} {n k:Nat} {vn va:Value} (h:cell.length=256) (hk:k<256):(Cg cell n vn va)[k]?=some (Ji (cell.getD k 0)):=by
  unfold Cg;rw [List.getElem?_append_left kZ,List.getElem?_map,List.getElem?_eq_getElem oM,List.getD_eq_getElem?_getD,List.getElem?_eq_getElem oM];rfl
theorem Bp {cell:List Nat} {n:Nat} {vn va:Value} (h:cell.length=256):(Cg cell n vn va).length=259:=by unfold Cg;simp [h]
def bO (G:Ghost) (v:Value) (t:Tb):Prop:=∃ vn va,v=.agg (Cg t.cell t.cells vn va).toArray∧t.cell.length=256∧LN G vn t.next∧Hq G va t.acc
theorem bO.mono {G G':Ghost} (h:G.le G') {v:Value} {t:Tb} (ht:bO G v t):bO G' v t:=by
  obtain ⟨vn,va,e,h1,h2,h3⟩:=ht
  exact ⟨vn,va,e,h1,h2.mono h,h3.mono h⟩
theorem Mk {l:List Nat} {i:Nat} (h:i<l.length):(l.map Cm)[i]?=some (Cm (l[i]'h)):=by rw [List.getElem?_map,List.getElem?_eq_getElem h];rfl
theorem Ix {l:List Bool} {i:Nat} (h:i<l.length):(l.map Bb)[i]?=some (.bool (l[i]'h)):=by rw [List.getElem?_map,List.getElem?_eq_getElem h];rfl
theorem Lp (n:Nat):List.replicate n (Value.bool false)=(List.replicate n false).map Bb:=by rw [List.map_replicate];rfl
theorem Sh (n:Nat):List.replicate n (Value.int .i64 0)=(List.replicate n 0).map Cm:=by rw [List.map_replicate];rfl
theorem Bn {α:Type} {l:List α} {i:Nat} {d:α} (h:i<l.length):l.getD i d=l[i]:=by rw [List.getD_eq_getElem?_getD,List.getElem?_eq_getElem h];rfl
def Tb.ok (t:Tb):Prop:=1≤t.next.length∧t.next.length≤5000∧t.acc.length=t.next.length∧t.cells≤256∧(∀ r∈t.next,r.length=t.cells∧∀ x∈r,x<t.next.length)∧∀ c∈t.cell,c<t.cells
theorem oO {st:Rch} {x:Nat} (h:x<st.1.length) (hx:st.1[x]=true):Vx st x=st:=by unfold Vx;rw [Bn h,if_pos hx]
theorem iO {st:Rch} {x:Nat} (h:x<st.1.length) (hx:st.1[x]=false):Vx st x=(st.1.set x true,st.2++[x]):=by unfold Vx;rw [Bn h,hx];rfl
theorem Pc {l:List Bool} {x:Nat} (h:x<l.length) (hx:l[x]=false):(l.set x true).count false+1=l.count false:=by
  rw [List.count_set (h:=h),hx]
  have:0<l.count false:=List.count_pos_iff.2 (by rw [← hx];exact List.getElem_mem h)
  simp;omega
theorem rchG_go {t:Tb} {f i:Nat} {seen:List Bool} {l:List Nat} (h:i<l.length) (hs:l[i]<t.next.length):Zj t (f+1) i (seen,l)=Zj t f (i+1) ((t.next[l[i]]'hs).foldl Vx (seen,l)):=by
  rw [Zj,if_pos h,Bn h,Bn hs]
theorem vY {t:Tb} {f i:Nat} {seen:List Bool} {l L:List Nat} (h:l.length≤i) (hr:Zj t f i (seen,l)=some L):L=l:=by
  cases f with
  | zero=>cases hr
  | succ f=>rw [Zj,if_neg El] at hr;injection hr with hr;exact hr.symm
theorem vZ {t:Tb} {f i:Nat} {st:Rch} {L:List Nat} (hr:Zj t f i st=some L):0<f:=by
  cases f with
  | zero=>cases hr
  | succ f=>omega
theorem Fh {α β:Type} (f:β→α→β) (z:β) (l:List α) (k:Nat) (h:k<l.length):(l.take (k+1)).foldl f z=f ((l.take k).foldl f z) l[k]:=Dc f z l k h
theorem rch_ok {G:Ghost} {v:Value} {t:Tb} {L:List Nat} (ht:bO G v t) (hok:t.ok) (hL:Zo t=some L) :
  Ai prog 280 [v] G [] fun r G' H'=>H'=[]∧Cr G' r L:=by
 obtain ⟨un,ua,rfl,hcl,hN,hA⟩:=ht
 obtain ⟨An,cn,rfl⟩:=Be.slice hN
 obtain ⟨Aa,ca,rfl,_⟩:=id hA
 obtain ⟨hn1,hn2,_,_,hrows,_⟩:=hok
 unfold Zo at hL
 refine Ai.of_T [(0,_)] func280 rfl ntmps280 sM rfl fun w0 hs=>?_
 have hN0:=hN
 refine Wt 2 [] hs rfl<|O_s (Dw hs rfl (cs:=_) rfl fun b1 _ hs =>Wp 5 [0,257] hs rfl<|Zy hs (Db 0 isAgg41 rfl rfl (Jj hcl)<|Wp 1 [] hs rfl<|O_s (Fx (n:=t.next.length) (m:=t.next.length) hs underlying64 oN rfl rfl rfl oM oM oM fun b11 _ hs =>Wp 5 [0] hs rfl<|Zy hs (Bj (0) underlying64 sizeOf4 rfl rfl rfl oM<|O_n (Ct hs sizeOf4 rfl rfl rfl oM fun _ hs =>Wp 3 [0] hs rfl<|O_s (Ca hs underlying33 sizeOf3 zeroValue3 rfl rfl dC dC rfl (cs:=[_]) rfl rfl fun v1 _ hs _ =>Wp 7 [0,0] hs rfl ?_))))))
 have hs:=hs.f2.f1.f2
 have hc0:((List.replicate t.next.length false).set 0 true).count false+1=t.next.length:=by rw [Pc Nj sM];simp
 rw [Lp] at hs
 refine Zl [1,3,4,5] (fun m E w=>∃ (f i:Nat) (sn:List Bool) (l:List Nat) (v4:Value) (G2:Ghost),Zj t f i (sn,l)=some L∧sn.length=t.next.length∧(∀ x∈l,x<t.next.length)∧l.length+sn.count false=t.next.length∧i≤l.length∧m=f∧E=⟨[],[(1,Vp b1),(3,Vs b11 t.next.length t.next.length),(4,v4),(5,Vi (i:Int))]⟩∧St ⟨w0,G,Bl []⟩ G2 [.row 4 1 (Vs b11 t.next.length t.next.length) t.next.length (sn.map Bb),.row 3 1 (v4) l.length (l.map Cm),.blk b1 300 (Cg t.cell t.cells (.slice An t.next.length cn) (.slice Aa t.acc.length ca))] w) rfl (⟨t.next.length+1,0,_,[0],_,_,hL,by simp,by intro x hx;rw [List.mem_singleton.1 hx];omega,by simp only [List.length_singleton];omega,by omega,rfl,rfl,by rw [List.map_set];exact hs⟩) fun m E w hI=>?_
 obtain ⟨f,i,sn,l,v4,G2,hrg,hsl,hlN,hcn,hil,rfl,rfl,hs⟩:=hI
 have hN:=hN0.mono hs.le
 refine Wt 5 [] hs rfl<|Zy hs (Dq 1 rfl underlying33 rfl hs<|Zy hs (Yc rfl (fun h18=>?_) fun h18=>?_))
 ·
  refine Wp 3 [0] hs rfl ?_
  obtain ⟨s,hse⟩:∃ s,s=l[i]'oM:=⟨_,rfl⟩
  have hsN:s<t.next.length:=hlN s Z32
  refine Wu 3 [] hs rfl<|Bc [0,1,2,3,4,5,6,7,8,9] hs kR ?_
  replace hs:=hs.drew
  refine Xr [0] [257] hs rfl<|Xt 1 hs rfl (Db 2 isAgg41 rfl rfl (Jj hcl)<|Xr [2,3] [] hs rfl<|Xt 4 hs rfl (Hd (j:=((i:Nat):Int)) (i) 1 rfl underlying33 sizeOf3 rfl rfl rfl oM (u:=Cm s) (by rw [hse];exact Mk oM) hs fun p25 hp25 =>Xt 5 hs rfl (Iq isAgg3 rfl hp25<|Xt 6 hs rfl (Bv hN s underlying41 sizeOf33 rfl rfl rfl hsN fun p27 c27 hp27 hc27 hR27=>?_))))
  obtain ⟨rr,hre⟩:∃ r,r=t.next[s]'hsN:=⟨_,rfl⟩
  rw [← hre] at hR27
  have hrl:rr.length≤256:=by have h:=(hrows rr (by rw [hre];exact List.getElem_mem _)).1;omega
  obtain ⟨u28,rfl,hr⟩:=hR27
  obtain ⟨A28,c28,rfl,_⟩:=id hr
  refine Xt 7 hs rfl (Yg rfl (hp27 0 (.slice A28 rr.length c28) rfl)<|Xr [8,9] [] hs rfl<|Xe (Zk [1,3,4,5,28,29,30] rfl ?_))
  have hs:=hs.f2.f2.f2
  refine Zl [1,3,4,5,28,29,30] (fun m E w=>∃ (k:Nat) (sn2:List Bool) (l2:List Nat) (v4:Value) (G2:Ghost),k≤rr.length∧(sn2,l2)=(rr.take k).foldl Vx (sn,l)∧sn2.length=t.next.length∧(∀ x∈l2,x<t.next.length)∧l2.length+sn2.count false=t.next.length∧i+1≤l2.length∧Cr G2 (.slice A28 rr.length c28) rr∧m=rr.length-k∧E=⟨[],[(1,Vp b1),(3,Vs b11 t.next.length t.next.length),(4,v4),(5,Vi (i:Int)),(28,.slice A28 rr.length c28),(29,Vi ((rr.length:Nat):Int)),(30,Vi (k:Int))]⟩∧St ⟨w0,G,Bl []⟩ G2 [.row 4 1 (Vs b11 t.next.length t.next.length) t.next.length (sn2.map Bb),.row 3 1 (v4) l2.length (l2.map Cm),.blk b1 300 (Cg t.cell t.cells (.slice An t.next.length cn) (.slice Aa t.acc.length ca))] w) rfl (⟨0,sn,l,_,_,by omega,rfl,hsl,hlN,hcn,by omega,hr,rfl,rfl,hs⟩) fun m E w hI=>?_
  obtain ⟨k,sn2,l2,v4,G2,hk,hfo,hsl2,hlN2,hcn2,hil2,hr,rfl,rfl,hs⟩:=hI
  have hN:=hN0.mono hs.le
  refine Wt 2 [] hs rfl<|Zy hs (Yc rfl (fun h31=>?_) fun h31=>?_)
  ·
   refine Wp 8 [0] hs rfl<|Zy hs (Eo hr k underlying33 sizeOf3 rfl rfl rfl oM fun p32 hp32=>?_)
   obtain ⟨x,hxe⟩:∃ x,x=rr[k]'oM:=⟨_,rfl⟩
   rw [← hxe] at hp32
   have hxN:x<t.next.length:=(hrows rr (by rw [hre];exact List.getElem_mem _)).2 x Z33
   refine Zy hs (Yg rfl (hp32)<|Wp 6 [0] hs rfl<|Zy hs (Bj (x) underlying64 sizeOf4 rfl rfl rfl oM ?_))
   obtain ⟨q37,hq37⟩:∃ q,q=sn2[x]'oM:=⟨_,rfl⟩
   refine Zy hs (Dg 0 rfl isAgg4 rfl (show (sn2.map Bb)[x]?=some (.bool q37) from by rw [hq37];exact Ix oM) ?_)
   cases q37
   ·
    refine Wp 7 [0] hs rfl<|Zy hs (Bj (x) underlying64 sizeOf4 rfl rfl rfl oM<|O_n (Ct hs sizeOf4 rfl rfl rfl oM fun _ hs =>Wp 4 [0] hs rfl<|O_s (Ca hs underlying33 sizeOf3 zeroValue3 rfl rfl dC dC rfl (cs:=[_]) rfl rfl fun v2 _ hs _=>?_)))
    obtain ⟨_,hG44,hl44,hs⟩:=hs.fixRow noM
    replace hr:=hr.mono hG44
    refine O_s (Bf hs.f1 underlying33 Lb rfl dC rfl rfl (hl44) (Fj rfl) oM oM fun v3 _ hs =>Wp 3 [0] hs rfl<|Zy hs (Ya (s:=((k+1:Nat):Int)) rfl<|Wp 1 [] hs rfl ?_))
    have hs:=hs.f2.f1.f2
    have hst:=iO (st:=(sn2,l2)) (x:=x) El hq37.symm
    have hcn2:=Pc (l:=sn2) (x:=x) oM hq37.symm
    refine Zx [1,3,4,5,28,29,30] rfl ⟨k+1,sn2.set x true,l2++[x],_,_,by omega,by rw [Fh _ _ _ _ oM,← hxe,← hfo,hst],by rw [List.length_set];exact hsl2,by intro y hy;rcases List.mem_append.1 hy with hy | hy;exact hlN2 y hy;rw [List.mem_singleton.1 hy];exact hxN,by rw [List.length_append,List.length_singleton];omega,by rw [List.length_append];omega,hr,rfl,rfl,by simpa [List.map_set,Cm,Bb] using hs.weak hs.le (gLr _) (lSa [_,_,_] _)⟩
   refine Wp 5 [0] hs rfl<|Zy hs (Ya (s:=((k+1:Nat):Int)) rfl<|Wp 1 [] hs rfl ?_)
   have hs:=hs.f2.f2.f2
   have hst:=oO (st:=(sn2,l2)) (x:=x) El hq37.symm
   refine Zx [1,3,4,5,28,29,30] rfl ⟨k+1,sn2,l2,_,_,by omega,by rw [Fh _ _ _ _ oM,← hxe,← hfo,hst],hsl2,hlN2,hcn2,hil2,hr,rfl,rfl,hs⟩
  refine Wp 4 [0] hs rfl<|Wu 2 [] hs rfl<|Zy hs (Ya (s:=((i+1:Nat):Int)) rfl<|Wp 1 [] hs rfl ?_)
  have hs:=hs.f2.f2.f2
  obtain rfl:k=rr.length:=by omega
  rw [List.take_length] at hfo
  have hfp:=vZ hrg
  obtain ⟨f1,rfl⟩:∃ g,m=g+1:=⟨m-1,by omega⟩
  have hgo:=(rchG_go (f:=f1) (seen:=sn) (show i<l.length by omega) (by rw [← hse];exact hsN)).symm.trans hrg
  simp only [← hse,← hre,← hfo] at hgo
  refine Zx [1,3,4,5] rfl ⟨f1,i+1,sn2,l2,_,_,hgo,hsl2,hlN2,hcn2,hil2,rfl,rfl,hs⟩
 refine Wp 3 [0] hs rfl<|Wu 5 [0] hs rfl<|Ah ?_
 have hs:=hs.f1
 refine Zz results280 rfl ?_
 obtain rfl:=vY oM hrg
 obtain ⟨G9,hG9,hf,hs⟩:=hs.fixRow noM
 exact ⟨_,[],hs.done,rfl,hf⟩
theorem one2 {a b:Int} {k:IntKind}:∀ y∈[Value.int k a,.int k b],y.oneCell'=true:=by
  intro y hy
  simp only [List.mem_cons,List.not_mem_nil,or_false] at hy
  rcases hy with rfl | rfl<;>rfl
theorem wA (x:Nat):((x:Int)).fdiv (2 ^ (min (8:Int).toNat IntKind.i64.bits))=((x / 256:Nat):Int):=by
  show ((x:Int)).fdiv 256=_
  rw [Int.fdiv_eq_ediv_of_nonneg _ dC];omega
theorem keyS:Ie prog 9 Rr:=Ie.str underlying9
theorem iP {t:Tb} {l:List Nat} {k:Nat} (h:k<l.length) (b:List Nat):(l.take (k+1)).foldl (fun b s=>if t.acc.getD s false=true then b.set s 1 else b) b=(fun b s=>if t.acc.getD s false=true then b.set s 1 else b) ((l.take k).foldl (fun b s=>if t.acc.getD s false=true then b.set s 1 else b) b) l[k]:=Dc _ _ _ _ h
theorem oP {t:Tb} {bl nx rp:List Nat} {ks:List (List UInt8)} {s:Nat} (h:Da (Ue t bl s) ks<ks.length):tW t bl ⟨ks,nx,rp⟩ s=⟨ks,nx.set s (Da (Ue t bl s) ks),rp⟩:=by
  unfold tW;simp only [if_pos h]
theorem oQ {t:Tb} {bl nx rp:List Nat} {ks:List (List UInt8)} {s:Nat} (h:¬ Da (Ue t bl s) ks<ks.length):tW t bl ⟨ks,nx,rp⟩ s=⟨ks++[Ue t bl s],nx.set s rp.length,rp++[s]⟩:=by
  unfold tW;simp only [if_neg h]
theorem Pd {α:Type} [DecidableEq α] {k:α} {ks:List α} (hn:ks.Nodup) (h:¬ Da k ks<ks.length):(ks++[k]).Nodup:=by
  rw [List.nodup_append]
  refine ⟨hn,by simp,fun a ha b hb=>?_⟩
  obtain rfl:=List.mem_singleton.1 hb
  intro e;subst e;exact h (Fy.2 ha)
theorem rfG_pos {t:Tb} {l:List Nat} {f c:Nat} {b:List Nat} {R:List Nat×List Nat} (hr:vM t l f b c=some R):0<f:=by
  cases f with
  | zero=>cases hr
  | succ f=>omega
theorem rfG_end {t:Tb} {l:List Nat} {f c:Nat} {b nx rp:List Nat} {ks:List (List UInt8)} {R:List Nat×List Nat} (he:(⟨ks,nx,rp⟩:Rf)=rfR t l b) (hc:rp.length=c) (hr:vM t l (f+1) b c=some R):R=(nx,rp):=by
  rw [vM] at hr
  simp only [← he] at hr
  rw [if_pos hc] at hr;injection hr with hr;exact hr.symm
theorem rfG_go {t:Tb} {l:List Nat} {f c:Nat} {b nx rp:List Nat} {ks:List (List UInt8)} {R:List Nat×List Nat} (he:(⟨ks,nx,rp⟩:Rf)=rfR t l b) (hc:¬ rp.length=c) (hr:vM t l (f+1) b c=some R):vM t l f nx rp.length=some R:=by
  rw [vM] at hr
  simp only [← he] at hr
  rwa [if_neg hc] at hr
theorem eP (x:Nat):(two x).length=2:=rfl
theorem wB {b r:List Nat} {j:Nat} (h:j<r.length):(r.take (j+1)).flatMap (fun x=>two (b.getD x 0))=(r.take j).flatMap (fun x=>two (b.getD x 0))++two (b.getD r[j] 0):=by
  rw [List.take_add_one,List.getElem?_eq_getElem h,List.flatMap_append];simp
theorem key_len {b r:List Nat}:(r.flatMap fun x=>two (b.getD x 0)).length=2*r.length:=by
  induction r with
  | nil=>rfl
  | cons x r ih=>rw [List.flatMap_cons,List.length_append,ih,eP,List.length_cons];omega
theorem rW {G:Ghost} {v vl:Value} {t:Tb} {l B R:List Nat} (ht:bO G v t) (hok:t.ok) (hl:Cr G vl l) (hll:l.length≤5000) (hlN:∀ x∈l,x<t.next.length) (hR:Ry t l=some (B,R)) :
  Ai prog 279 [v,vl] G [] fun r G' H'=>H'=[]∧∃ vb vr,r=.tuple #[vb,vr]∧Cr G' vb B∧Cr G' vr R:=by
 obtain ⟨un,ua,rfl,hcl,hN,hA⟩:=ht
 obtain ⟨An,cn,rfl⟩:=Be.slice hN
 obtain ⟨Aa,ca,rfl,_⟩:=id hA
 obtain ⟨Al,cl,rfl,_⟩:=id hl
 obtain ⟨hn1,hn2,hal,hce,hrows,_⟩:=hok
 unfold Ry at hR
 refine Ai.of_T [(0,_),(1,_)] func279 rfl ntmps279 sM rfl fun w0 hs=>?_
 have hN0:=hN
 have hA0:=hA
 have hl0:=hl
 refine Wt 2 [] hs rfl<|O_s (Dw hs rfl (cs:=_) rfl fun b2 _ hs =>Wp 6 [0,257] hs rfl<|Zy hs (Db 0 isAgg41 rfl rfl (Jj hcl)<|Wp 1 [] hs rfl<|O_s (Fx (n:=t.next.length) (m:=t.next.length) hs underlying33 Lb rfl rfl rfl oM oM oM fun b23 _ hs =>Wp 9 [0,0] hs rfl ?_)))
 have hs:=hs.f1.f1
 rw [Sh] at hs
 refine Dp (Tr (fun m E w=>∃ (k:Nat) (bl:List Nat) (G2:Ghost),k≤l.length∧bl=(l.take k).foldl (fun b s=>if t.acc.getD s false=true then b.set s 1 else b) (List.replicate t.next.length 0)∧bl.length=t.next.length∧m=l.length-k∧E=⟨[],[(1,(.slice Al l.length cl)),(2,Vp b2),(6,Vs b23 t.next.length t.next.length),(24,(.slice Al l.length cl)),(25,Vi ((l.length:Nat):Int)),(26,Vi (k:Int))]⟩∧St ⟨w0,G,Bl []⟩ G2 [.row 3 1 (Vs b23 t.next.length t.next.length) t.next.length (bl.map Cm),.blk b2 300 (Cg t.cell t.cells (.slice An t.next.length cn) (.slice Aa t.acc.length ca))] w) (L:=[(1,_),(2,_),(6,_),(24,_),(25,_),(26,_)]) ⟨rfl,rfl,rfl,rfl,rfl,rfl,trivial⟩ (⟨0,_,_,by omega,rfl,by simp,rfl,rfl,hs⟩) fun m E w hI=>?_)
 obtain ⟨k,bl,G2,hk,hfo,hbl,rfl,rfl,hs⟩:=hI
 have hN:=hN0.mono hs.le
 have hA:=hA0.mono hs.le
 have hl:=hl0.mono hs.le
 refine Wt 2 [] hs rfl<|Zy hs (Yc rfl (fun h27=>?_) fun h27=>?_)
 ·
  refine Wp 8 [0] hs rfl<|Zy hs (Eo hl k underlying33 sizeOf3 rfl rfl rfl oM fun p28 hp28=>?_)
  obtain ⟨s,hse⟩:∃ s,s=l[k]'oM:=⟨_,rfl⟩
  rw [← hse] at hp28
  have hsN:s<t.next.length:=hlN s Z32
  refine Zy hs (Yg rfl (hp28)<|Wp 5 [0,258] hs rfl<|Zy hs (Db 1 isAgg64 rfl rfl (Uh hcl)<|Wp 1 [] hs rfl<|Zy hs (Jc s underlying64 sizeOf4 hA rfl rfl rfl (Ix oM) fun p33 hp33 =>Zy hs (Yg rfl (hp33)<|Wp 1 [0] hs rfl<|Fv rfl (fun h34=>?_) (fun h34=>?_)))))
  ·
   refine Wu 3 [] hs rfl<|Zy hs (Bj (s) underlying33 sizeOf3 rfl rfl rfl oM<|O_n (Ct hs sizeOf3 rfl rfl rfl oM fun _ hs =>Wp 2 [0] hs rfl<|Zy hs (Ya (s:=((k+1:Nat):Int)) rfl<|Wp 1 [] hs rfl ?_)))
   have hs:=hs.f1.f1
   have hacc:t.acc.getD s false=true:=by rw [Bn oM];exact h34
   refine Cl ⟨_,?_,[(1,_),(2,_),(6,_),(24,_),(25,_),(26,_)],⟨rfl,rfl,rfl,rfl,rfl,rfl,trivial⟩,⟨k+1,bl.set s 1,_,by omega,by rw [iP oM,← hse,← hfo];dsimp only;rw [hacc];rfl,by simp [hbl],rfl,rfl,by rw [List.map_set];exact hs⟩⟩
   omega
  refine Wu 2 [] hs rfl<|Zy hs (Ya (s:=((k+1:Nat):Int)) rfl<|Wp 1 [] hs rfl ?_)
  have hs:=hs.f1.f1
  have hacc:t.acc.getD s false=false:=by rw [Bn oM];exact h34
  refine Cl ⟨_,?_,[(1,_),(2,_),(6,_),(24,_),(25,_),(26,_)],⟨rfl,rfl,rfl,rfl,rfl,rfl,trivial⟩,⟨k+1,bl,_,by omega,by rw [iP oM,← hse,← hfo];dsimp only;rw [hacc];rfl,by simp [hbl],rfl,rfl,hs⟩⟩
  omega
 refine Wp 4 [0] hs rfl<|Wu 4 [0] hs rfl ?_
 obtain rfl:k=l.length:=by omega
 rw [List.take_length] at hfo
 refine Dp (Tr (fun m E w=>∃ (f c b6:Nat) (bl:List Nat) (G2:Ghost),vM t l f bl c=some (B,R)∧bl.length=t.next.length∧c≤5000∧m=f∧E=⟨[],[(1,(.slice Al l.length cl)),(2,Vp b2),(6,Vs b6 t.next.length t.next.length),(9,Vi (c:Int))]⟩∧St ⟨w0,G,Bl []⟩ G2 [.row 3 1 (Vs b6 t.next.length t.next.length) t.next.length (bl.map Cm),.blk b2 300 (Cg t.cell t.cells (.slice An t.next.length cn) (.slice Aa t.acc.length ca))] w) (L:=[(1,_),(2,_),(6,_),(9,_)]) ⟨rfl,rfl,rfl,rfl,trivial⟩ (⟨100,0,b23,bl,_,by rw [hfo];exact hR,hbl,by omega,rfl,rfl,hs⟩) fun m E w hI=>?_)
 obtain ⟨f,c,b6,bl,G2,hrg,hbl,hc5,rfl,rfl,hs⟩:=hI
 have hN:=hN0.mono hs.le
 have hA:=hA0.mono hs.le
 have hl:=hl0.mono hs.le
 refine Wt 3 [] hs rfl<|O_s (Jw hs fun b39 _ hs =>Wp 6 [0] hs rfl<|O_s (Fx (n:=t.next.length) (m:=t.next.length) hs underlying33 Lb rfl rfl rfl oM oM oM fun b42 _ hs =>Wp 13 [0,0,0] hs rfl ?_))
 have hfp:=rfG_pos hrg
 obtain ⟨f1,rfl⟩:∃ g,m=g+1:=⟨m-1,by omega⟩
 have hs:=hs.nilRow 3 1
 have hs:=hs.f4.f4.f2.f3.f4
 rw [Sh] at hs
 refine Dp (Tr (fun m E w=>∃ (k:Nat) (ks:List (List UInt8)) (nx rp:List Nat) (v12:Value) (G2:Ghost),k≤l.length∧(⟨ks,nx,rp⟩:Rf)=(l.take k).foldl (tW t bl) ⟨[],List.replicate bl.length 0,[]⟩∧ks.Nodup∧ks.length=rp.length∧nx.length=t.next.length∧rp.length≤k∧m=l.length-k∧E=⟨[],[(1,(.slice Al l.length cl)),(2,Vp b2),(6,Vs b6 t.next.length t.next.length),(9,Vi (c:Int)),(10,.map (some b39)),(11,Vs b42 t.next.length t.next.length),(12,v12),(43,(.slice Al l.length cl)),(44,Vi ((l.length:Nat):Int)),(45,Vi (k:Int))]⟩∧St ⟨w0,G,Bl []⟩ G2 [.obj b39 (.map (Ff Rr ks).toArray ks.length),.row 3 1 (Vs b42 t.next.length t.next.length) t.next.length (nx.map Cm),.row 3 1 (v12) rp.length (rp.map Cm),.row 3 1 (Vs b6 t.next.length t.next.length) t.next.length (bl.map Cm),.blk b2 300 (Cg t.cell t.cells (.slice An t.next.length cn) (.slice Aa t.acc.length ca))] w) (L:=[(1,_),(2,_),(6,_),(9,_),(10,_),(11,_),(12,_),(43,_),(44,_),(45,_)]) ⟨rfl,rfl,rfl,rfl,rfl,rfl,rfl,rfl,rfl,rfl,trivial⟩ (⟨0,[],List.replicate bl.length 0,[],_,_,by omega,rfl,List.nodup_nil,rfl,by simp [hbl],by simp,rfl,rfl,by rw [hbl];exact hs⟩) fun m E w hI=>?_)
 obtain ⟨k,ks,nx,rp,v12,G2,hk,hfo,hnd,hkl,hnl,hrk,rfl,rfl,hs⟩:=hI
 have hN:=hN0.mono hs.le
 have hA:=hA0.mono hs.le
 have hl:=hl0.mono hs.le
 refine Wt 2 [] hs rfl<|Zy hs (Yc rfl (fun h46=>?_) fun h46=>?_)
 ·
  refine Wp 8 [0] hs rfl<|Zy hs (Eo hl k underlying33 sizeOf3 rfl rfl rfl oM fun p47 hp47=>?_)
  obtain ⟨s,hse⟩:∃ s,s=l[k]'oM:=⟨_,rfl⟩
  rw [← hse] at hp47
  have hsN:s<t.next.length:=hlN s Z32
  refine Zy hs (Yg rfl (hp47)<|Wp 5 [0,257] hs rfl<|Zy hs (Db 4 isAgg41 rfl rfl (Jj hcl)<|Wp 1 [] hs rfl<|Zy hs (Bv hN s underlying41 sizeOf33 rfl rfl rfl oM fun p52 c52 hp52 hc52 hR52=>?_)))
  obtain ⟨rr,herr⟩:∃ r,r=t.next[s]'oM:=⟨_,rfl⟩
  rw [← herr] at hR52
  have hlrr:rr.length=t.cells∧∀ x∈rr,x<t.next.length:=hrows rr Z29
  obtain ⟨u52,rfl,hrr⟩:=hR52
  obtain ⟨A52,c52,rfl,_⟩:=id hrr
  refine Zy hs (Yg rfl (hp52 0 (.slice A52 rr.length c52) rfl)<|Wp 1 [] hs rfl<|Zy hs (Xh (c:=((2*rr.length:Nat):Int)) rfl rfl oM oM<|Zy hs (Ya (s:=((2*rr.length+2:Nat):Int)) rfl<|O_s (Fx (n:=0) (m:=(2*rr.length+2)) hs underlying29 TI5 rfl rfl rfl oM oM oM fun b57 _ hs =>Wp 2 [0] hs rfl ?_))))
  obtain ⟨x0,hx0⟩:∃ x,x=bl[s]'oM:=⟨_,rfl⟩
  refine Wu 1 [] hs rfl<|Bc [0,1,2,3,4,5,6,7,8,9,10,11,12] hs kR ?_
  replace hs:=hs.drew
  refine Xr [0,1,2] [] hs rfl<|Xt 3 hs rfl (Bj (s) underlying33 sizeOf3 rfl rfl rfl oM<|Xt 4 hs rfl (Dg 4 rfl isAgg3 rfl (show (bl.map Cm)[s]?=some (Cm x0) from by rw [hx0];exact Mk oM)<|Xt 5 hs rfl (Dj underlying3 underlying5 (c:=((UInt8.ofNat x0).toNat:Int)) rfl (Jf _)<|Xr [6,7] [] hs rfl<|Xt 8 hs rfl (Bj (s) underlying33 sizeOf3 rfl rfl rfl oM<|Xt 9 hs rfl (Dg 4 rfl isAgg3 rfl (show (bl.map Cm)[s]?=some (Cm x0) from by rw [hx0];exact Mk oM)<|Xt 10 hs rfl (cN (c:=((x0 / 256:Nat):Int)) rfl rfl dC (wA _)<|Xt 11 hs rfl (Dj underlying3 underlying5 (c:=((UInt8.ofNat (x0 / 256)).toNat:Int)) rfl (Jf _) ?_)))))))
  have hle:=hs.le
  refine Xo 12 rfl (Se hs zeroValue5 rfl fun v1 _ hs _=>?_)
  obtain ⟨_,hG70,hl70,hs⟩:=hs.fixRow noM
  replace hN:=hN.mono hG70
  replace hA:=hA.mono hG70
  replace hl:=hl.mono hG70
  refine Am hs hle hG70 (lSr _)<|Xa 13 rfl (Bf hs underlying29 TI5 rfl dC rfl rfl (hl70) (one2) oM oM fun v2 _ hs =>Xa 14 rfl (S_y hs rfl (Yq rfl<|Xe (Zk [1,2,6,9,10,11,12,14,15,43,44,45] rfl<|Wu 4 [257] hs rfl<|Zy hs (Db 5 isAgg41 rfl rfl (Jj hcl)<|Wp 1 [] hs rfl<|Zy hs (Bv hN s underlying41 sizeOf33 rfl rfl rfl oM fun p75 c75 hp75 hc75 hR75=>?_))))))
  rw [← herr] at hR75
  obtain ⟨u75,rfl,hr2⟩:=hR75
  obtain ⟨A75,c75,rfl,_⟩:=id hr2
  refine Zy hs (Yg rfl (hp75 0 (.slice A75 rr.length c75) rfl)<|Wp 3 [0] hs rfl ?_)
  have hs:=hs.f5.f5.f5.f5.f5.f5
  have hx0g:two x0=two (bl.getD s 0):=by rw [Bn oM,← hx0]
  refine Dp (Tr (fun m E w=>∃ (j:Nat) (vk:Value) (G2:Ghost),j≤rr.length∧Cr G2 (.slice A75 rr.length c75) rr∧m=rr.length-j∧E=⟨[],[(1,(.slice Al l.length cl)),(2,Vp b2),(6,Vs b6 t.next.length t.next.length),(9,Vi (c:Int)),(10,.map (some b39)),(11,Vs b42 t.next.length t.next.length),(12,v12),(14,Vi (s:Int)),(15,vk),(43,(.slice Al l.length cl)),(44,Vi ((l.length:Nat):Int)),(45,Vi (k:Int)),(76,.slice A75 rr.length c75),(77,Vi ((rr.length:Nat):Int)),(78,Vi (j:Int))]⟩∧St ⟨w0,G,Bl []⟩ G2 [.row 5 1 vk (two (bl.getD s 0)++(rr.take j).flatMap fun x=>two (bl.getD x 0)).length ((two (bl.getD s 0)++(rr.take j).flatMap fun x=>two (bl.getD x 0)).map Kc),.obj b39 (.map (Ff Rr ks).toArray ks.length),.row 3 1 (Vs b42 t.next.length t.next.length) t.next.length (nx.map Cm),.row 3 1 (v12) rp.length (rp.map Cm),.row 3 1 (Vs b6 t.next.length t.next.length) t.next.length (bl.map Cm),.blk b2 300 (Cg t.cell t.cells (.slice An t.next.length cn) (.slice Aa t.acc.length ca))] w) (L:=[(1,_),(2,_),(6,_),(9,_),(10,_),(11,_),(12,_),(14,_),(15,_),(43,_),(44,_),(45,_),(76,_),(77,_),(78,_)]) ⟨rfl,rfl,rfl,rfl,rfl,rfl,rfl,rfl,rfl,rfl,rfl,rfl,rfl,rfl,rfl,trivial⟩ (⟨0,_,_,by omega,hr2,rfl,rfl,by rw [List.take_zero,List.flatMap_nil,List.append_nil,← hx0g];exact hs⟩) fun m E w hI=>?_)
  obtain ⟨j,vk,G2,hj,hr2,rfl,rfl,hs⟩:=hI
  have hN:=hN0.mono hs.le
  have hA:=hA0.mono hs.le
  have hl:=hl0.mono hs.le
  refine Wt 2 [] hs rfl<|Zy hs (Yc rfl (fun h79=>?_) fun h79=>?_)
  ·
   refine Wp 8 [0] hs rfl<|Zy hs (Eo hr2 j underlying33 sizeOf3 rfl rfl rfl oM fun p80 hp80=>?_)
   obtain ⟨x,hxe⟩:∃ x,x=rr[j]'oM:=⟨_,rfl⟩
   rw [← hxe] at hp80
   have hxN:x<t.next.length:=hlrr.2 x Z33
   refine Zy hs (Yg rfl (hp80)<|Wp 2 [0] hs rfl ?_)
   obtain ⟨x1,hx1⟩:∃ y,y=bl[x]'oM:=⟨_,rfl⟩
   have hkyl:(two (bl.getD s 0)++(rr.take j).flatMap fun x=>two (bl.getD x 0)).length=2+2*j:=by rw [List.length_append,eP,key_len,List.length_take];omega
   refine Bc [0,1,2,3,4,5,6,7,8,9,10,11,12] hs kR ?_
   replace hs:=hs.drew
   refine Xr [0,1,2] [] hs rfl<|Xt 3 hs rfl (Bj (x) underlying33 sizeOf3 rfl rfl rfl oM<|Xt 4 hs rfl (Dg 4 rfl isAgg3 rfl (show (bl.map Cm)[x]?=some (Cm x1) from by rw [hx1];exact Mk oM)<|Xt 5 hs rfl (Dj underlying3 underlying5 (c:=((UInt8.ofNat x1).toNat:Int)) rfl (Jf _)<|Xr [6,7] [] hs rfl<|Xt 8 hs rfl (Bj (x) underlying33 sizeOf3 rfl rfl rfl oM<|Xt 9 hs rfl (Dg 4 rfl isAgg3 rfl (show (bl.map Cm)[x]?=some (Cm x1) from by rw [hx1];exact Mk oM)<|Xt 10 hs rfl (cN (c:=((x1 / 256:Nat):Int)) rfl rfl dC (wA _)<|Xt 11 hs rfl (Dj underlying3 underlying5 (c:=((UInt8.ofNat (x1 / 256)).toNat:Int)) rfl (Jf _) ?_)))))))
   have hle:=hs.le
   refine Xo 12 rfl (Se hs zeroValue5 rfl fun v3 _ hs _=>?_)
   obtain ⟨_,hG94,hl94,hs⟩:=hs.fixRow noM
   replace hr2:=hr2.mono hG94
   refine Am hs hle hG94 (lSr _)<|Xa 13 rfl (Bf hs underlying29 TI5 rfl dC rfl rfl (hl94) (one2) (by rw [hkyl];omega) (by rw [hkyl];omega) fun v4 _ hs =>Xa 14 rfl (S_y hs rfl (Yq rfl<|Xe (Zk [1,2,6,9,10,11,12,14,15,43,44,45,76,77,78] rfl ?_))))
   refine Zr<|Zy hs (Ya (s:=((j+1:Nat):Int)) rfl<|Wp 1 [] hs rfl ?_)
   have hs:=hs.f5.f5.f5.f5.f5.f5
   have hx1g:two x1=two (bl.getD rr[j] 0):=by rw [← hxe,Bn oM,← hx1]
   refine Cl ⟨_,?_,[(1,_),(2,_),(6,_),(9,_),(10,_),(11,_),(12,_),(14,_),(15,_),(43,_),(44,_),(45,_),(76,_),(77,_),(78,_)],⟨rfl,rfl,rfl,rfl,rfl,rfl,rfl,rfl,rfl,rfl,rfl,rfl,rfl,rfl,rfl,trivial⟩,⟨j+1,_,_,by omega,hr2,rfl,rfl,by rw [wB oM,← hx1g,← List.append_assoc,List.map_append,List.length_append];exact hs⟩⟩
   omega
  refine Wp 4 [0] hs rfl ?_
  obtain rfl:j=rr.length:=by omega
  rw [List.take_length] at hs
  obtain ⟨_,hG_hky,hky,hs⟩:=hs.fixRow noM
  have hke:(two (bl.getD s 0)++rr.flatMap fun x=>two (bl.getD x 0))=Ue t bl s:=by unfold Ue;rw [Bn (by omega:s<t.next.length),← herr]
  rw [hke] at hky
  replace hky:Cv _ _ _:=hky
  refine Wu 4 [] hs rfl<|Zy hs (nP (bs:=Ue t bl s) underlying29 underlying5 underlying9 rfl hky<|Zy hs (Jy (a:=(Ue t bl s)) 0 rfl underlying358 keyS zeroValue3 hnd rfl rfl (fun hno=>?_) (fun hyes=>?_)))
  ·
   refine Wp 16 [14,1,2,6,9,10,11,12,14,15,18,19,43,44,45,0] hs rfl<|Zy hs (Dq 2 rfl underlying33 rfl hs<|Wp 6 [0] hs rfl<|Zy hs (nP (bs:=Ue t bl s) underlying29 underlying5 underlying9 rfl hky<|Wp 1 [] hs rfl<|O_n (Yd hs underlying358 keyS hnd hno rfl rfl (by rw [hkl];rfl) fun _ hs =>Wp 4 [0] hs rfl<|O_s (Se hs zeroValue3 rfl fun v5 _ hs _=>?_))))
   obtain ⟨_,hG114,hl114,hs⟩:=hs.fixRow noM
   refine O_s (Bf hs.f2 underlying33 Lb rfl dC rfl rfl (hl114) (Fj rfl) oM oM fun v6 _ hs =>Wp 6 [12,1,2,6,9,10,11,12,14,18,43,44,45] hs rfl<|Zy hs (Bj (s) underlying33 sizeOf3 rfl rfl rfl oM<|O_n (Ct hs.f2 sizeOf3 rfl rfl rfl oM fun _ hs =>Wp 2 [0] hs rfl<|Zy hs (Ya (s:=((k+1:Nat):Int)) rfl<|Wp 1 [] hs rfl ?_))))
   have hs:=hs.f4.f4.f3.f3.f4
   have hst:=oQ (t:=t) (bl:=bl) (nx:=nx) (rp:=rp) hno
   refine Cl ⟨_,?_,[(1,_),(2,_),(6,_),(9,_),(10,_),(11,_),(12,_),(43,_),(44,_),(45,_)],⟨rfl,rfl,rfl,rfl,rfl,rfl,rfl,rfl,rfl,rfl,trivial⟩,⟨k+1,ks++[Ue t bl s],nx.set s rp.length,rp++[s],_,_,by omega,by rw [Fh _ _ _ _ oM,← hse,← hfo,hst],Pd hnd hno,by simp [hkl],by rw [List.length_set];exact hnl,by simp;omega,rfl,rfl,by rw [List.map_set,List.map_append,show (rp++[s]).length=rp.length+1 by simp];exact hs.weak hs.le (gLr _) (lSa [_,_,_,_,_] _)⟩⟩
   omega
  refine Wp 18 [14,1,2,6,9,10,11,12,14,15,18,19,43,44,45,0] hs rfl<|Zy hs (Bj (s) underlying33 sizeOf3 rfl rfl rfl oM<|O_n (Ct hs.f1 sizeOf3 rfl rfl rfl oM fun _ hs =>Wp 2 [0] hs rfl<|Zy hs (Ya (s:=((k+1:Nat):Int)) rfl<|Wp 1 [] hs rfl ?_)))
  have hs:=hs.f4.f4.f4.f3.f4
  have hst:=oP (t:=t) (bl:=bl) (nx:=nx) (rp:=rp) hyes
  refine Cl ⟨_,?_,[(1,_),(2,_),(6,_),(9,_),(10,_),(11,_),(12,_),(43,_),(44,_),(45,_)],⟨rfl,rfl,rfl,rfl,rfl,rfl,rfl,rfl,rfl,rfl,trivial⟩,⟨k+1,ks,nx.set s (Da (Ue t bl s) ks),rp,_,_,by omega,by rw [Fh _ _ _ _ oM,← hse,← hfo,hst],hnd,hkl,by rw [List.length_set];exact hnl,by omega,rfl,rfl,by rw [List.map_set];exact hs.weak hs.le (gLr _) (lSa [_,_,_,_,_] _)⟩⟩
  omega
 refine Wp 4 [0] hs rfl ?_
 obtain rfl:k=l.length:=by omega
 rw [List.take_length] at hfo
 refine Wu 4 [] hs rfl<|Zy hs (Dq 2 rfl underlying33 rfl hs<|Wp 1 [] hs rfl<|Zy hs (Yc rfl (fun h124=>?_) fun h124=>?_))
 ·
  refine Wp 9 [0,0] hs rfl<|Ah ?_
  have hfe:=rfG_end hfo oM hrg
  rw [Prod.mk.injEq] at hfe
  obtain ⟨rfl,rfl⟩:=hfe
  have hs:=hs.f2
  obtain ⟨_,hG_hf12,hf12,hs⟩:=hs.fixRow noM
  have hs:=hs.f1
  obtain ⟨_,hG_hf42,hf42,hs⟩:=hs.fixRow noM
  replace hf12:=hf12.mono hG_hf42
  refine Bi (vs:=[_,_]) results279 rfl ⟨rfl,rfl,trivial⟩ ?_
  try dsimp only [tup]
  exact ⟨_,[],hs.done,rfl,_,_,rfl,(show Cr _ _ _ from by unfold Cr;rw [hnl];exact hf42),hf12⟩
 refine Wp 6 [0] hs rfl<|Zy hs (Dq 2 rfl underlying33 rfl hs<|Wp 2 [] hs rfl ?_)
 have hs:=hs.f4.f2
 have hgo:=rfG_go hfo oM hrg
 refine Cl ⟨_,?_,[(1,_),(2,_),(6,_),(9,_)],⟨rfl,rfl,rfl,rfl,trivial⟩,⟨f1,rp.length,b42,nx,_,hgo,by omega,by omega,rfl,rfl,by exact hs.weak hs.le (gLr _) (lSa [_,_] _)⟩⟩
 omega
abbrev Kp (z:Int):Value:=Vi z
def Jo (l:List (List Nat)):List Value:=(l.map fun c=>c.map Af).flatten
def cA (l:List (List Nat)):Prop:=∀ c∈l,c.length=4∧∀ w∈c,w<W64
theorem iQ {l:List (List Nat)} (h:cA l):∀ c∈l.map fun c=>c.map Af,c.length=4:=by
  intro c hc
  obtain ⟨d,hd,rfl⟩:=List.mem_map.1 hc
  rw [List.length_map];exact (h d hd).1
theorem aD (l:List (List Nat)) (c:List Nat):Jo (l++[c])=Jo l++c.map Af:=by unfold Jo;simp
theorem aF {l:List (List Nat)} (h:cA l) {i:Nat} (hi:i<l.length):((Jo l).drop (i*4)).take 4=l[i].map Af :=
  Qj _ i _ (iQ h) (by rw [List.getElem?_map,List.getElem?_eq_getElem hi];rfl)
theorem dG:∀ {l:List (List Nat)} (_:cA l) {i:Nat} (_:i<l.length) (c:List Nat),Jo (l.set i c)=(Jo l).take (i*4)++c.map Af++(Jo l).drop (i*4+4)
  | d::l,h,0,_,c=>by
    have hd:=(h d sM).1
    simp only [Jo,List.set_cons_zero,List.map_cons,List.flatten_cons,Nat.zero_mul,List.take_zero,List.nil_append,Nat.zero_add]
    rw [List.drop_append,List.drop_eq_nil_of_le kZ,List.nil_append,List.length_map,hd];rfl
  | d::l,h,i+1,hi,c=>by
    have hd:=(h d sM).1
    have ih:=dG (l:=l) (fun x hx=>h x (by simp [hx])) (i:=i) (by simpa using hi) c
    have e:∀ l:List (List Nat),Jo (d::l)=d.map Af++Jo l:=fun l=>rfl
    have e1:(d.map Af).take ((i+1)*4)=d.map Af:=List.take_of_length_le kZ
    have e2:(d.map Af).drop ((i+1)*4+4)=[]:=List.drop_eq_nil_of_le kZ
    rw [List.set_cons_succ,e,e,ih,List.take_append,List.drop_append,e1,e2,List.nil_append,List.length_map,hd,show (i+1)*4-4=i*4 by omega,show (i+1)*4+4-4=i*4+4 by omega]
    simp only [List.append_assoc]
theorem cA.set {l:List (List Nat)} (h:cA l) {i:Nat} {c:List Nat} (hc:c.length=4∧∀ w∈c,w<W64):cA (l.set i c):=by
  intro d hd
  rcases List.mem_or_eq_of_mem_set hd with hd | rfl
  · exact h d hd
  · exact hc
theorem aG {a b:List Nat} (ha:a.length=4) (hb:b.length=4):(Fz a b).length=4∧∀ w∈Fz a b,w<W64:=by
  refine ⟨Mh ha hb,fun w hw=>?_⟩
  unfold Fz at hw
  obtain ⟨i,hi,rfl⟩:=List.mem_iff_getElem.1 hw
  rw [List.getElem_zipWith];exact nX _ _
structure Vy (t:Tb) (k:Nat) (st:Mg):Prop where
  nd:st.keys.Nodup
  kl:st.keys.length=st.cells.length
  cl:st.cls.length=st.cells.length
  ol:st.of.length=t.cells
  le:st.cells.length≤k
  lt:∀ z∈st.of,-1≤z∧z<(st.cells.length:Int)
  c4:cA st.cls
theorem oR {t:Tb} {b r:List Nat} {st:Mg} {c:Nat} (h:Da (kQ t b r c) st.keys<st.keys.length):oI t b r st c={ st with of:=st.of.set c ((Da (kQ t b r c) st.keys:Nat):Int) }:=by
  unfold oI;simp only [if_pos h]
theorem oS {t:Tb} {b r:List Nat} {st:Mg} {c:Nat} (h:¬ Da (kQ t b r c) st.keys<st.keys.length):oI t b r st c=⟨st.keys++[kQ t b r c],st.cells++[c],st.cls++[[0,0,0,0]],st.of.set c (st.cells.length:Int)⟩:=by
  unfold oI;simp only [if_neg h]
theorem Ui {t:Tb} {k:Nat} {b r:List Nat} {st:Mg} {c:Nat} (h:Vy t k st) (hc:c<t.cells):Vy t (k+1) (oI t b r st c)∧0≤(oI t b r st c).of.getD c 0:=by
  by_cases hp:Da (kQ t b r c) st.keys<st.keys.length
  · rw [oR hp]
    refine ⟨⟨h.nd,h.kl,h.cl,by simp [h.ol],by have:=h.le;dsimp only;omega,fun z hz=>?_,h.c4⟩,?_⟩
    · rcases List.mem_or_eq_of_mem_set hz with hz | rfl
      · exact h.lt z hz
      · have:=h.kl;dsimp only;omega
    · dsimp only;rw [Bn (by rw [List.length_set,h.ol];exact hc),List.getElem_set_self];omega
  · rw [oS hp]
    refine ⟨⟨Pd h.nd hp,by simp [h.kl],by simp [h.cl],by simp [h.ol],by have:=h.le;simp;omega,fun z hz=>?_,fun d hd=>?_⟩,?_⟩
    · rcases List.mem_or_eq_of_mem_set hz with hz | rfl
      · have:=h.lt z hz;simp;omega
      · simp;omega
    · rcases List.mem_append.1 hd with hd | hd
      · exact h.c4 d hd
      · rw [List.mem_singleton.1 hd];exact ⟨rfl,by decide⟩
    · dsimp only;rw [Bn (by rw [List.length_set,h.ol];exact hc),List.getElem_set_self];omega
def kS (st:Mg) (c x:Nat):Mg:={ st with cls:=st.cls.set (st.of.getD c 0).toNat (Fz (st.cls.getD (st.of.getD c 0).toNat []) (kP [UInt8.ofNat x])) }
theorem eQ (t:Tb) (b r:List Nat) (st:Mg) (x:Nat):rP t b r st x=kS (if st.of.getD (t.cell.getD x 0) 0<0 then oI t b r st (t.cell.getD x 0) else st) (t.cell.getD x 0) x:=rfl
theorem Vy.up {t:Tb} {k:Nat} {st:Mg} (h:Vy t k st):Vy t (k+1) st:=⟨h.nd,h.kl,h.cl,h.ol,by have:=h.le;omega,h.lt,h.c4⟩
theorem aH {t:Tb} {k:Nat} {st:Mg} {c x:Nat} (h:Vy t k st) (hc:c<t.cells) (h0:0≤st.of.getD c 0):Vy t k (kS st c x):=by
  have hlt:=h.lt (st.of.getD c 0) (by rw [Bn (by rw [h.ol];exact hc)];exact List.getElem_mem _)
  refine ⟨h.nd,h.kl,by unfold kS;simp [h.cl],h.ol,h.le,h.lt,?_⟩
  refine cA.set h.c4 (aG ?_ (Me _))
  rw [Bn (by have:=h.cl;omega)]
  exact (h.c4 _ (List.getElem_mem _)).1
theorem mgP_ok {t:Tb} {k:Nat} {b r:List Nat} {st:Mg} {x:Nat} (h:Vy t k st) (hc:t.cell.getD x 0<t.cells):Vy t (k+1) (rP t b r st x):=by
  rw [eQ]
  by_cases h0:st.of.getD (t.cell.getD x 0) 0<0
  · rw [if_pos h0];exact aH (Ui h hc).1 hc (Ui h hc).2
  · rw [if_neg h0];exact (aH h hc oM).up
theorem lR {t:Tb} {b r:List Nat} (hcl:t.cell.length=256) (hc:∀ c∈t.cell,c<t.cells):∀ k,k≤256→Vy t k ((List.range k).foldl (rP t b r) ⟨[],[],[],List.replicate t.cells (-1)⟩)
  | 0,_=>⟨List.nodup_nil,rfl,rfl,by simp,by simp,fun z hz=>by rw [List.eq_of_mem_replicate hz];simp,fun c hc=>by cases hc⟩
  | k+1,hk=>by
    rw [List.range_succ,List.foldl_append]
    refine mgP_ok (lR hcl hc k oM) ?_
    rw [Bn oM];exact hc _ (List.getElem_mem _)
theorem eR {t:Tb} {b r:List Nat} (k:Nat):(List.range (k+1)).foldl (rP t b r) ⟨[],[],[],List.replicate t.cells (-1)⟩=rP t b r ((List.range k).foldl (rP t b r) ⟨[],[],[],List.replicate t.cells (-1)⟩) k:=by
  rw [List.range_succ,List.foldl_append];rfl
theorem wC {t:Tb} {b r:List Nat} {c j:Nat} (h:j<r.length):kQ t b (r.take (j+1)) c=kQ t b (r.take j) c++two (b.getD (t.to r[j] c) 0):=by
  unfold kQ;rw [List.take_add_one,List.getElem?_eq_getElem h,List.flatMap_append];simp
theorem oT {t:Tb} {b r:List Nat} {c:Nat}:(kQ t b r c).length=2*r.length:=by
  unfold kQ
  induction r with
  | nil=>rfl
  | cons x r ih=>rw [List.flatMap_cons,List.length_append,ih,eP,List.length_cons];omega
theorem iR {t:Tb} {s c:Nat} (hs:s<t.next.length) (hc:c<(t.next[s]'hs).length):t.to s c=(t.next[s]'hs)[c]:=by unfold Tb.to;rw [Bn hs,Bn hc]
theorem Is {l:List Int} {i:Nat} (h:i<l.length):(l.map Kp)[i]?=some (Kp (l[i]'h)):=by rw [List.getElem?_map,List.getElem?_eq_getElem h];rfl
theorem dH {n k:Nat} (h:k<n):(List.replicate k (-1:Int)++List.replicate (n-k) 0).set k (-1)=List.replicate (k+1) (-1)++List.replicate (n-(k+1)) 0:=by
  rw [List.set_append_right _ _ sM,List.length_replicate,Nat.sub_self,show n-k=(n-(k+1))+1 by omega,List.replicate_succ,List.set_cons_zero,List.replicate_succ',List.append_assoc];rfl
theorem Bz {c:Ctx} {G:Ghost} {H H':List Res} {w:World} (hs:St c G H w) (h:H=H'):St c G H' w:=h▸hs
def ClR (_:Ghost) (c:List Value) (w:List Nat):Prop:=c=w.map Af∧w.length=4∧∀ x∈w,x<W64
def Pt (G:Ghost) (v:Value) (l:List (List Nat)):Prop:=Be 4 ClR G v l
theorem Pt.mono {G G':Ghost} (h:G.le G') {v:Value} {l:List (List Nat)} (hl:Pt G v l):Pt G' v l:=Be.mono (R:=ClR) (G:=G) (G':=G') (fun _ _ h=>h) h hl
theorem clsL_of {G:Ghost} {v:Value} {l:List (List Nat)} (h:Sl G v 4 l.length (Jo l)) (h4:cA l):Pt G v l:=by
  refine Be.ofSl h rfl rfl ?_ (iQ h4)
  have key:∀ l:List (List Nat),cA l→Cj (ClR G) (l.map fun c=>c.map Af) l:=by
    intro l
    induction l with
    | nil=>intro _;trivial
    | cons c l ih=>intro h;exact ⟨⟨rfl,(h c sM).1,(h c sM).2⟩,ih fun d hd=>h d (by simp [hd])⟩
  exact key l h4
theorem one_z4:∀ y∈[Value.int .u64 0,.int .u64 0,.int .u64 0,.int .u64 0],y.oneCell'=true:=by
  intro y hy
  simp only [List.mem_cons,List.not_mem_nil,or_false] at hy
  rcases hy with rfl | rfl | rfl | rfl<;>rfl
theorem wD {G:Ghost} {v vb vr:Value} {t:Tb} {B R:List Nat} (ht:bO G v t) (hok:t.ok) (hB:Cr G vb B) (hR:Cr G vr R) (hBl:B.length=t.next.length) (hRl:R.length≤5000) (hRN:∀ x∈R,x<t.next.length) :
  Ai prog 281 [v,vb,vr] G [] fun r G' H'=>H'=[]∧∃ vc vk,r=.tuple #[vc,vk]∧Cr G' vc (Mi t B R).cells∧Pt G' vk (Mi t B R).cls:=by
 obtain ⟨un,ua,rfl,hcl,hN,hA⟩:=ht
 obtain ⟨An,cn,rfl⟩:=Be.slice hN
 obtain ⟨Aa,ca,rfl,_⟩:=id hA
 obtain ⟨Ab,cb,rfl,_⟩:=id hB
 obtain ⟨Ar,cr,rfl,_⟩:=id hR
 obtain ⟨hn1,hn2,hal,hce5,hrows,hcells⟩:=hok
 refine Ai.of_T [(0,_),(1,_),(2,_)] func281 rfl ntmps281 sM rfl fun w0 hs=>?_
 have hN0:=hN
 have hA0:=hA
 have hB0:=hB
 have hR0:=hR
 refine Wt 2 [] hs rfl<|O_s (Dw hs rfl (cs:=_) rfl fun b3 _ hs =>Wp 5 [0] hs rfl<|O_s (Jw hs fun b21 _ hs =>Wp 13 [0,0,0,256] hs rfl<|Zy hs (Db 1 isAgg3 rfl rfl (tabC_1 hcl)<|O_s (Fx (n:=t.cells) (m:=t.cells) hs underlying33 Lb rfl rfl rfl oM oM oM fun b24 _ hs =>Wp 9 [0,0] hs rfl ?_))))
 have hs:=hs.f2.f2.f2
 refine Zl [1,2,3,8,9,10,11,26,27] (fun m E w=>∃ (k:Nat) (G2:Ghost),k≤t.cells∧m=t.cells-k∧E=⟨[],[(1,(.slice Ab B.length cb)),(2,(.slice Ar R.length cr)),(3,Vp b3),(8,.map (some b21)),(9,Vn),(10,Vn),(11,Vs b24 t.cells t.cells),(26,Vi ((t.cells:Nat):Int)),(27,Vi (k:Int))]⟩∧St ⟨w0,G,Bl []⟩ G2 [.row 3 1 (Vs b24 t.cells t.cells) t.cells ((List.replicate k (-1)++List.replicate (t.cells-k) 0).map Kp),.obj b21 (.map #[] 0),.blk b3 300 (Cg t.cell t.cells (.slice An t.next.length cn) (.slice Aa t.acc.length ca))] w) rfl (⟨0,_,by omega,rfl,rfl,by rw [List.replicate_zero,List.nil_append,Nat.sub_zero,List.map_replicate];exact hs⟩) fun m E w hI=>?_
 obtain ⟨k,G2,hk,rfl,rfl,hs⟩:=hI
 have hN:=hN0.mono hs.le
 have hA:=hA0.mono hs.le
 have hB:=hB0.mono hs.le
 have hR:=hR0.mono hs.le
 refine Wt 2 [] hs rfl<|Zy hs (Yc rfl (fun h28=>?_) fun h28=>?_)
 ·
  refine Wp 14 [0,0] hs rfl<|Zy hs (Bj (k) underlying33 sizeOf3 rfl rfl rfl oM<|O_n (Ct hs sizeOf3 rfl rfl rfl oM fun _ hs =>Wp 2 [0] hs rfl<|Zy hs (Ya (s:=((k+1:Nat):Int)) rfl<|Wp 1 [] hs rfl<|Zx [1,2,3,8,9,10,11,26,27] rfl ⟨k+1,_,by omega,rfl,rfl,by rw [← dH oM,List.map_set];exact hs⟩)))
 refine Wp 4 [0] hs rfl<|Wu 5 [0] hs rfl ?_
 obtain rfl:k=t.cells:=by omega
 rw [Nat.sub_self,List.replicate_zero,List.append_nil] at hs
 have hs:=hs.nilRow 127 4
 have hs:=hs.nilRow 3 1
 have hs:=hs.f4.f3.f3.f3.f4
 have hm0:=lR (b:=B) (r:=R) hcl hcells
 refine Zl [1,2,3,8,9,10,11,34] (fun m E w=>∃ (k:Nat) (sm:Mg) (v9 v10:Value) (G2:Ghost),k≤256∧sm=(List.range k).foldl (rP t B R) ⟨[],[],[],List.replicate t.cells (-1)⟩∧Vy t k sm∧m=256-k∧E=⟨[],[(1,(.slice Ab B.length cb)),(2,(.slice Ar R.length cr)),(3,Vp b3),(8,.map (some b21)),(9,v9),(10,v10),(11,Vs b24 t.cells t.cells),(34,Vi (k:Int))]⟩∧St ⟨w0,G,Bl []⟩ G2 [.obj b21 (.map (Ff Rr sm.keys).toArray sm.keys.length),.row 3 1 (v9) sm.cells.length (sm.cells.map Cm),.row 127 4 (v10) sm.cls.length (Jo sm.cls),.row 3 1 (Vs b24 t.cells t.cells) t.cells (sm.of.map Kp),.blk b3 300 (Cg t.cell t.cells (.slice An t.next.length cn) (.slice Aa t.acc.length ca))] w) rfl (⟨0,_,_,_,_,by omega,rfl,hm0 0 oM,rfl,rfl,hs⟩) fun m E w hI=>?_
 obtain ⟨k,sm,v9,v10,G2,hk,hsm,hmo,rfl,rfl,hs⟩:=hI
 have hN:=hN0.mono hs.le
 have hA:=hA0.mono hs.le
 have hB:=hB0.mono hs.le
 have hR:=hR0.mono hs.le
 refine Wt 2 [] hs rfl<|Zy hs (Yc rfl (fun h35=>?_) fun h35=>?_)
 ·
  refine Wp 15 [0,0,0] hs rfl<|Zy hs (Bq k underlying298 sizeOf3 rfl rfl rfl oM ?_)
  obtain ⟨c,hce⟩:∃ c,c=t.cell.getD k 0:=⟨_,rfl⟩
  have hcc:c<t.cells:=by rw [hce,Bn oM];exact hcells _ (List.getElem_mem _)
  refine Zy hs (Db 4 isAgg3 rfl rfl (show (Cg t.cell t.cells (.slice An t.next.length cn) (.slice Aa t.acc.length ca))[k]?=some (Cm c) from by rw [hce];exact aC hcl oM)<|Wp 7 [0] hs rfl<|Zy hs (Bj (c) underlying33 sizeOf3 rfl rfl rfl oM ?_))
  obtain ⟨z,hz⟩:∃ z,z=sm.of[c]'(by rw [hmo.ol];exact hcc):=⟨_,rfl⟩
  refine Zy hs (Dg 3 rfl isAgg3 rfl (show (sm.of.map Kp)[c]?=some (Kp z) from by rw [hz];exact Is (by rw [hmo.ol];exact hcc))<|Zy hs (Yc rfl (fun h45=>?_) fun h45=>?_))
  ·
   have hz0:sm.of.getD c 0<0:=by rw [Bn (by rw [hmo.ol];exact hcc),← hz];exact h45
   refine Wp 6 [0] hs rfl<|Zy hs (Xh (c:=((2*R.length:Nat):Int)) rfl rfl oM oM<|O_s (Fx (n:=0) (m:=(2*R.length)) hs underlying29 TI5 rfl rfl rfl oM oM oM fun b49 _ hs =>Wp 9 [11,1,2,3,8,9,10,11,13,14,15,34,0] hs rfl ?_))
   have hs:=hs.f5.f5.f5.f5.f5.f5
   refine Zl [1,2,3,8,9,10,11,13,14,15,34,50,51,52] (fun m E w=>∃ (j:Nat) (vk:Value) (G2:Ghost),j≤R.length∧m=R.length-j∧E=⟨[],[(1,(.slice Ab B.length cb)),(2,(.slice Ar R.length cr)),(3,Vp b3),(8,.map (some b21)),(9,v9),(10,v10),(11,Vs b24 t.cells t.cells),(13,Vi (k:Int)),(14,Vi (c:Int)),(15,vk),(34,Vi (k:Int)),(50,(.slice Ar R.length cr)),(51,Vi ((R.length:Nat):Int)),(52,Vi (j:Int))]⟩∧St ⟨w0,G,Bl []⟩ G2 (.row 5 1 vk (kQ t B (R.take j) c).length ((kQ t B (R.take j) c).map Kc)::[.obj b21 (.map (Ff Rr sm.keys).toArray sm.keys.length),.row 3 1 (v9) sm.cells.length (sm.cells.map Cm),.row 127 4 (v10) sm.cls.length (Jo sm.cls),.row 3 1 (Vs b24 t.cells t.cells) t.cells (sm.of.map Kp),.blk b3 300 (Cg t.cell t.cells (.slice An t.next.length cn) (.slice Aa t.acc.length ca))]) w) rfl (⟨0,_,_,by omega,rfl,rfl,hs⟩) fun m E w hI=>?_
   obtain ⟨j,vk,G2,hj,rfl,rfl,hs⟩:=hI
   have hN:=hN0.mono hs.le
   have hA:=hA0.mono hs.le
   have hB:=hB0.mono hs.le
   have hR:=hR0.mono hs.le
   refine Wt 2 [] hs rfl<|Zy hs (Yc rfl (fun h53=>?_) fun h53=>?_)
   ·
    refine Wp 8 [0] hs rfl<|Zy hs (Eo hR j underlying33 sizeOf3 rfl rfl rfl oM fun p54 hp54=>?_)
    obtain ⟨s,hse⟩:∃ s,s=R[j]'oM:=⟨_,rfl⟩
    rw [← hse] at hp54
    have hsN:s<t.next.length:=hRN s Z32
    refine Zy hs (Yg rfl (hp54)<|Wp 6 [0,257] hs rfl<|Zy hs (Db 5 isAgg41 rfl rfl (Jj hcl)<|Wp 1 [] hs rfl<|Zy hs (Bv hN s underlying41 sizeOf33 rfl rfl rfl oM fun p60 c60 hp60 hc60 hR60=>?_)))
    obtain ⟨rr,herr⟩:∃ r,r=t.next[s]'oM:=⟨_,rfl⟩
    rw [← herr] at hR60
    have hlrr:rr.length=t.cells∧∀ x∈rr,x<t.next.length:=hrows rr Z29
    obtain ⟨u60,rfl,hrr⟩:=hR60
    obtain ⟨A60,c60,rfl,_⟩:=id hrr
    refine Zy hs (Yg rfl (hp60 0 (.slice A60 rr.length c60) rfl)<|Wp 1 [] hs rfl<|Zy hs (Eo hrr c underlying33 sizeOf3 rfl rfl rfl oM fun p63 hp63=>?_))
    obtain ⟨y,hye⟩:∃ y,y=rr[c]'oM:=⟨_,rfl⟩
    rw [← hye] at hp63
    have hyN:y<t.next.length:=hlrr.2 y (by rw [hye];exact List.getElem_mem _)
    refine Zy hs (Yg rfl (hp63)<|Zy hs (Eo hB y underlying33 sizeOf3 rfl rfl rfl oM fun p65 hp65=>?_))
    obtain ⟨x,hxe⟩:∃ x,x=B[y]'oM:=⟨_,rfl⟩
    rw [← hxe] at hp65
    refine Zy hs (Yg rfl (hp65)<|Wp 5 [15,1,2,3,8,9,10,11,13,14,15,18,34,50,51,52] hs rfl<|Zy hs (Dj underlying3 underlying5 (c:=((UInt8.ofNat x).toNat:Int)) rfl (Jf _)<|Wp 1 [] hs rfl<|Zy hs (cN (c:=((x / 256:Nat):Int)) rfl rfl dC (wA _)<|Zy hs (Dj underlying3 underlying5 (c:=((UInt8.ofNat (x / 256)).toNat:Int)) rfl (Jf _)<|O_s (Ca hs underlying29 sizeOf5 zeroValue5 rfl rfl dC dC rfl (cs:=[_,_]) rfl rfl fun v1 _ hs _=>?_)))))
    obtain ⟨_,hG73,hl73,hs⟩:=hs.fixRow noM
    refine O_s (Bf hs underlying29 TI5 rfl dC rfl rfl (hl73) (one2) (by rw [oT,List.length_take];omega) (by rw [oT,List.length_take];omega) fun v2 _ hs =>Wp 3 [0] hs rfl<|Zy hs (Ya (s:=((j+1:Nat):Int)) rfl<|Wp 1 [] hs rfl ?_))
    have hs:=hs.f5.f5.f5.f5.f5.f5
    have hx1g:two x=two (B.getD (t.to R[j] c) 0):=by rw [← hse,iR hsN (by rw [← herr];omega)];simp only [← herr,← hye];rw [Bn oM,← hxe]
    refine Zx [1,2,3,8,9,10,11,13,14,15,34,50,51,52] rfl ⟨j+1,_,_,by omega,rfl,rfl,by rw [wC oM,← hx1g,List.map_append,List.length_append];exact hs⟩
   refine Wp 4 [0] hs rfl ?_
   obtain rfl:j=R.length:=by omega
   rw [List.take_length] at hs
   obtain ⟨_,hG_hky,hky,hs⟩:=hs.fixRow noM
   replace hR:=hR.mono hG_hky
   replace hky:Cv _ _ _:=hky
   have hnd:=hmo.nd
   refine Wu 4 [] hs rfl<|Zy hs (nP (bs:=(kQ t B R c)) underlying29 underlying5 underlying9 rfl hky<|Zy hs (Jy (a:=(kQ t B R c)) 0 rfl underlying358 keyS zeroValue3 hnd rfl rfl (fun hno=>?_) (fun hyes=>?_)))
   ·
    refine Wp 16 [0,13,1,2,3,8,9,10,11,13,14,15,19,34,84] hs rfl<|Zy hs (Dq 1 rfl underlying33 rfl hs<|Wp 6 [0] hs rfl<|Zy hs (nP (bs:=(kQ t B R c)) underlying29 underlying5 underlying9 rfl hky<|Wp 1 [] hs rfl<|O_n (Yd hs underlying358 keyS hnd hno rfl rfl (by rw [hmo.kl];rfl) fun _ hs =>Wp 5 [0] hs rfl<|O_s (Ca hs underlying33 sizeOf3 zeroValue3 rfl rfl dC dC rfl (cs:=[_]) rfl rfl fun v3 _ hs _=>?_))))
    obtain ⟨_,hG93,hl93,hs⟩:=hs.fixRow noM
    replace hR:=hR.mono hG93
    refine O_s (Bf hs.f1 underlying33 Lb rfl dC rfl rfl (hl93) (Fj rfl) (by have:=hmo.le;omega) (by have:=hmo.le;omega) fun v4 _ hs =>Wp 4 [11,1,2,3,8,9,10,11,13,14,19,34] hs rfl<|Zy hs (Co underlying127 sizeOf125 zeroValue127 rfl rfl (cs:=[_,_,_,_]) rfl<|O_s (Ca hs underlying248 sizeOf127 zeroValue127 rfl rfl dC dC rfl (cs:=[_,_,_,_]) rfl rfl fun v5 _ hs _=>?_)))
    obtain ⟨_,hG97,hl97,hs⟩:=hs.fixRow noM
    replace hR:=hR.mono hG97
    refine O_s (Bf hs.f2 underlying248 vX rfl dC rfl rfl (hl97) (one_z4) (by have:=hmo.le;have:=hmo.cl;omega) (by have:=hmo.le;have:=hmo.cl;omega) fun v6 _ hs =>Wp 6 [0] hs rfl<|Zy hs (Bj (c) underlying33 sizeOf3 rfl rfl rfl oM<|O_n (Ct hs.f3 sizeOf3 rfl rfl rfl oM fun _ hs =>Wp 1 [0] hs rfl ?_)))
    have hs:=hs.f4.f1.f2.f3.f4
    replace hs:=hs.weak hs.le (gLr _) (lSa [_,_,_,_,_] _)
    obtain ⟨s2,hs2e⟩:∃ s,s=oI t B R sm c:=⟨_,rfl⟩
    have hs2ok:=(Ui (b:=B) (r:=R) hmo hcc).1
    have hz2:=(Ui (b:=B) (r:=R) hmo hcc).2
    have hs2f:s2=if sm.of.getD c 0<0 then oI t B R sm c else sm:=by rw [if_pos hz0];exact hs2e
    rw [← hs2e] at hs2ok hz2
    replace hs:=Bz (H':=[.obj b21 (.map (Ff Rr s2.keys).toArray s2.keys.length),.row 3 1 (v4) s2.cells.length (s2.cells.map Cm),.row 127 4 (v6) s2.cls.length (Jo s2.cls),.row 3 1 (Vs b24 t.cells t.cells) t.cells (s2.of.map Kp),.blk b3 300 (Cg t.cell t.cells (.slice An t.next.length cn) (.slice Aa t.acc.length ca))]) hs (by rw [hs2e,oS hno];simp [aD,Cm,Kp,Af,List.map_set])
    have hc2:c<s2.of.length:=by rw [hs2ok.ol];exact hcc
    obtain ⟨ix,hix⟩:=Int.eq_ofNat_of_zero_le hz2
    rw [Bn hc2] at hix
    have hixl:ix<s2.cls.length:=by have h:=(hs2ok.lt s2.of[c] (List.getElem_mem _)).2;rw [hs2ok.cl];omega
    obtain ⟨b10,cap10,hb10,_⟩:=hs.rowForm 2 rfl oM
    subst hb10
    refine Bc [0,1,2,3,4,5,6,7,8,9,10,11,12,13,14,15,16,17] hs kR ?_
    replace hs:=hs.drew
    refine Xr [0,1,2] [] hs rfl<|Xt 3 hs rfl (Bj (c) underlying33 sizeOf3 rfl rfl rfl oM<|Xt 4 hs rfl (Dg 3 rfl isAgg3 rfl ((Is hc2).trans (by rw [hix]))<|Xr [5,6,7] [] hs rfl<|Xt 8 hs rfl (Bj (c) underlying33 sizeOf3 rfl rfl rfl oM<|Xt 9 hs rfl (Dg 3 rfl isAgg3 rfl ((Is hc2).trans (by rw [hix]))<|Xt 10 hs rfl (Cy ix underlying248 sizeOf127 rfl rfl rfl hixl<|Xt 11 hs rfl (He 2 rfl isAgg127 sizeOf127 rfl hixl (aF hs2ok.c4 hixl) Z18<|Xr [12] [] hs rfl<|Xt 13 hs rfl (Dj underlying3 underlying5 (c:=((UInt8.ofNat k).toNat:Int)) rfl (Jf _) ?_)))))))
    have hle:=hs.le
    refine Xo 14 rfl (Ca hs underlying29 sizeOf5 zeroValue5 rfl rfl dC dC rfl (cs:=[_]) rfl rfl fun v7 _ hs _=>?_)
    obtain ⟨_,hG117,hl117,hs⟩:=hs.fixRow noM
    replace hR:=hR.mono hG117
    refine Am hs hle hG117 (lSr _) ?_
    have hle:=hs.le
    refine Xo 15 rfl (Sc (vT (l:=[UInt8.ofNat k]) (Cv.ofSl hl117 rfl rfl) (by show 1≤1000000000;omega)) hs rfl fun v8 G' H' _ hR hG118 hs=>?_)
    obtain ⟨rfl,rfl⟩:=hR
    replace hs:=hs.n rfl
    replace hR:=hR.mono hG118
    refine Am hs hle hG118 (lSr _) ?_
    have hle:=hs.le
    refine Xo 16 rfl (Sc (Sf (hs2ok.c4 _ (List.getElem_mem hixl)).1 (Me _)) hs rfl fun v9 G' H' _ hR hG119 hs=>?_)
    obtain ⟨rfl,rfl⟩:=hR
    replace hs:=hs.n rfl
    refine Am hs hle hG119 (lSr _)<|Xt 17 hs rfl (Cy ix underlying248 sizeOf127 rfl rfl rfl hixl<|Xn 18 rfl (Oa (vs:=(Fz (s2.cls[ix]'hixl) (kP [UInt8.ofNat k])).map Af) hs.f2 sizeOf127 rfl rfl Z14 (Df _) hixl fun _ hs =>Xe (Zk [1,2,3,8,9,10,11,34] rfl ?_)))
    refine Zr<|Zy hs (Ya (s:=((k+1:Nat):Int)) rfl<|Wp 1 [] hs rfl ?_)
    have hs:=hs.f4.f4.f2.f4.f4
    have hst:rP t B R sm k=kS s2 c k:=by rw [eQ,← hce,hs2f]
    have hcs:(s2.cls.set ix (Fz s2.cls[ix] (kP [UInt8.ofNat k])))=(kS s2 c k).cls:=by unfold kS;dsimp only;rw [Bn hc2,hix];simp only [Int.toNat_natCast];rw [Bn hixl]
    refine Zx [1,2,3,8,9,10,11,34] rfl ⟨k+1,kS s2 c k,v4,_,_,by omega,by rw [eR,← hsm,hst],aH hs2ok hcc (by rw [Bn hc2,hix];omega),rfl,rfl,Bz hs Z25⟩
   refine Wp 18 [0,13,1,2,3,8,9,10,11,13,14,15,19,34,84] hs rfl<|Zy hs (Bj (c) underlying33 sizeOf3 rfl rfl rfl oM<|O_n (Ct hs.f3 sizeOf3 rfl rfl rfl oM fun _ hs =>Wp 1 [0] hs rfl ?_))
   have hs:=hs.f4.f1.f4.f4.f4
   replace hs:=hs.weak hs.le (gLr _) (lSa [_,_,_,_,_] _)
   obtain ⟨s2,hs2e⟩:∃ s,s=oI t B R sm c:=⟨_,rfl⟩
   have hs2ok:=(Ui (b:=B) (r:=R) hmo hcc).1
   have hz2:=(Ui (b:=B) (r:=R) hmo hcc).2
   have hs2f:s2=if sm.of.getD c 0<0 then oI t B R sm c else sm:=by rw [if_pos hz0];exact hs2e
   rw [← hs2e] at hs2ok hz2
   replace hs:=Bz (H':=[.obj b21 (.map (Ff Rr s2.keys).toArray s2.keys.length),.row 3 1 (v9) s2.cells.length (s2.cells.map Cm),.row 127 4 (v10) s2.cls.length (Jo s2.cls),.row 3 1 (Vs b24 t.cells t.cells) t.cells (s2.of.map Kp),.blk b3 300 (Cg t.cell t.cells (.slice An t.next.length cn) (.slice Aa t.acc.length ca))]) hs (by rw [hs2e,oR hyes];simp [aD,Cm,Kp,Af,List.map_set])
   have hc2:c<s2.of.length:=by rw [hs2ok.ol];exact hcc
   obtain ⟨ix,hix⟩:=Int.eq_ofNat_of_zero_le hz2
   rw [Bn hc2] at hix
   have hixl:ix<s2.cls.length:=by have h:=(hs2ok.lt s2.of[c] (List.getElem_mem _)).2;rw [hs2ok.cl];omega
   obtain ⟨b10,cap10,hb10,_⟩:=hs.rowForm 2 rfl oM
   subst hb10
   refine Bc [0,1,2,3,4,5,6,7,8,9,10,11,12,13,14,15,16,17] hs kR ?_
   replace hs:=hs.drew
   refine Xr [0,1,2] [] hs rfl<|Xt 3 hs rfl (Bj (c) underlying33 sizeOf3 rfl rfl rfl oM<|Xt 4 hs rfl (Dg 3 rfl isAgg3 rfl ((Is hc2).trans (by rw [hix]))<|Xr [5,6,7] [] hs rfl<|Xt 8 hs rfl (Bj (c) underlying33 sizeOf3 rfl rfl rfl oM<|Xt 9 hs rfl (Dg 3 rfl isAgg3 rfl ((Is hc2).trans (by rw [hix]))<|Xt 10 hs rfl (Cy ix underlying248 sizeOf127 rfl rfl rfl hixl<|Xt 11 hs rfl (He 2 rfl isAgg127 sizeOf127 rfl hixl (aF hs2ok.c4 hixl) Z18<|Xr [12] [] hs rfl<|Xt 13 hs rfl (Dj underlying3 underlying5 (c:=((UInt8.ofNat k).toNat:Int)) rfl (Jf _) ?_)))))))
   have hle:=hs.le
   refine Xo 14 rfl (Ca hs underlying29 sizeOf5 zeroValue5 rfl rfl dC dC rfl (cs:=[_]) rfl rfl fun v10 _ hs _=>?_)
   obtain ⟨_,hG117,hl117,hs⟩:=hs.fixRow noM
   replace hR:=hR.mono hG117
   refine Am hs hle hG117 (lSr _) ?_
   have hle:=hs.le
   refine Xo 15 rfl (Sc (vT (l:=[UInt8.ofNat k]) (Cv.ofSl hl117 rfl rfl) (by show 1≤1000000000;omega)) hs rfl fun v11 G' H' _ hR hG118 hs=>?_)
   obtain ⟨rfl,rfl⟩:=hR
   replace hs:=hs.n rfl
   replace hR:=hR.mono hG118
   refine Am hs hle hG118 (lSr _) ?_
   have hle:=hs.le
   refine Xo 16 rfl (Sc (Sf (hs2ok.c4 _ (List.getElem_mem hixl)).1 (Me _)) hs rfl fun v12 G' H' _ hR hG119 hs=>?_)
   obtain ⟨rfl,rfl⟩:=hR
   replace hs:=hs.n rfl
   refine Am hs hle hG119 (lSr _)<|Xt 17 hs rfl (Cy ix underlying248 sizeOf127 rfl rfl rfl hixl<|Xn 18 rfl (Oa (vs:=(Fz (s2.cls[ix]'hixl) (kP [UInt8.ofNat k])).map Af) hs.f2 sizeOf127 rfl rfl Z14 (Df _) hixl fun _ hs =>Xe (Zk [1,2,3,8,9,10,11,34] rfl ?_)))
   refine Zr<|Zy hs (Ya (s:=((k+1:Nat):Int)) rfl<|Wp 1 [] hs rfl ?_)
   have hs:=hs.f4.f4.f2.f4.f4
   have hst:rP t B R sm k=kS s2 c k:=by rw [eQ,← hce,hs2f]
   have hcs:(s2.cls.set ix (Fz s2.cls[ix] (kP [UInt8.ofNat k])))=(kS s2 c k).cls:=by unfold kS;dsimp only;rw [Bn hc2,hix];simp only [Int.toNat_natCast];rw [Bn hixl]
   refine Zx [1,2,3,8,9,10,11,34] rfl ⟨k+1,kS s2 c k,v9,_,_,by omega,by rw [eR,← hsm,hst],aH hs2ok hcc (by rw [Bn hc2,hix];omega),rfl,rfl,Bz hs Z25⟩
  have hz0:¬ sm.of.getD c 0<0:=by rw [Bn (by rw [hmo.ol];exact hcc),← hz];exact h45
  refine Wp 3 [0] hs rfl ?_
  have hs:=hs.f4.f4.f4.f4.f4
  replace hs:=hs.weak hs.le (gLr _) (lSa [_,_,_,_,_] _)
  obtain ⟨s2,hs2e⟩:∃ s,s=sm:=⟨_,rfl⟩
  have hs2ok:=hmo.up
  have hz2:0≤sm.of.getD c 0:=by omega
  have hs2f:s2=if sm.of.getD c 0<0 then oI t B R sm c else sm:=by rw [if_neg hz0];exact hs2e
  rw [← hs2e] at hs2ok hz2
  replace hs:=Bz (H':=[.obj b21 (.map (Ff Rr s2.keys).toArray s2.keys.length),.row 3 1 (v9) s2.cells.length (s2.cells.map Cm),.row 127 4 (v10) s2.cls.length (Jo s2.cls),.row 3 1 (Vs b24 t.cells t.cells) t.cells (s2.of.map Kp),.blk b3 300 (Cg t.cell t.cells (.slice An t.next.length cn) (.slice Aa t.acc.length ca))]) hs (by rw [hs2e])
  have hc2:c<s2.of.length:=by rw [hs2ok.ol];exact hcc
  obtain ⟨ix,hix⟩:=Int.eq_ofNat_of_zero_le hz2
  rw [Bn hc2] at hix
  have hixl:ix<s2.cls.length:=by have h:=(hs2ok.lt s2.of[c] (List.getElem_mem _)).2;rw [hs2ok.cl];omega
  obtain ⟨b10,cap10,hb10,_⟩:=hs.rowForm 2 rfl oM
  subst hb10
  refine Bc [0,1,2,3,4,5,6,7,8,9,10,11,12,13,14,15,16,17] hs kR ?_
  replace hs:=hs.drew
  refine Xr [0,1,2] [] hs rfl<|Xt 3 hs rfl (Bj (c) underlying33 sizeOf3 rfl rfl rfl oM<|Xt 4 hs rfl (Dg 3 rfl isAgg3 rfl ((Is hc2).trans (by rw [hix]))<|Xr [5,6,7] [] hs rfl<|Xt 8 hs rfl (Bj (c) underlying33 sizeOf3 rfl rfl rfl oM<|Xt 9 hs rfl (Dg 3 rfl isAgg3 rfl ((Is hc2).trans (by rw [hix]))<|Xt 10 hs rfl (Cy ix underlying248 sizeOf127 rfl rfl rfl hixl<|Xt 11 hs rfl (He 2 rfl isAgg127 sizeOf127 rfl hixl (aF hs2ok.c4 hixl) Z18<|Xr [12] [] hs rfl<|Xt 13 hs rfl (Dj underlying3 underlying5 (c:=((UInt8.ofNat k).toNat:Int)) rfl (Jf _) ?_)))))))
  have hle:=hs.le
  refine Xo 14 rfl (Ca hs underlying29 sizeOf5 zeroValue5 rfl rfl dC dC rfl (cs:=[_]) rfl rfl fun v13 _ hs _=>?_)
  obtain ⟨_,hG117,hl117,hs⟩:=hs.fixRow noM
  replace hR:=hR.mono hG117
  refine Am hs hle hG117 (lSr _) ?_
  have hle:=hs.le
  refine Xo 15 rfl (Sc (vT (l:=[UInt8.ofNat k]) (Cv.ofSl hl117 rfl rfl) (by show 1≤1000000000;omega)) hs rfl fun v14 G' H' _ hR hG118 hs=>?_)
  obtain ⟨rfl,rfl⟩:=hR
  replace hs:=hs.n rfl
  replace hR:=hR.mono hG118
  refine Am hs hle hG118 (lSr _) ?_
  have hle:=hs.le
  refine Xo 16 rfl (Sc (Sf (hs2ok.c4 _ (List.getElem_mem hixl)).1 (Me _)) hs rfl fun v15 G' H' _ hR hG119 hs=>?_)
  obtain ⟨rfl,rfl⟩:=hR
  replace hs:=hs.n rfl
  refine Am hs hle hG119 (lSr _)<|Xt 17 hs rfl (Cy ix underlying248 sizeOf127 rfl rfl rfl hixl<|Xn 18 rfl (Oa (vs:=(Fz (s2.cls[ix]'hixl) (kP [UInt8.ofNat k])).map Af) hs.f2 sizeOf127 rfl rfl Z14 (Df _) hixl fun _ hs =>Xe (Zk [1,2,3,8,9,10,11,34] rfl ?_)))
  refine Zr<|Zy hs (Ya (s:=((k+1:Nat):Int)) rfl<|Wp 1 [] hs rfl ?_)
  have hs:=hs.f4.f4.f2.f4.f4
  have hst:rP t B R sm k=kS s2 c k:=by rw [eQ,← hce,hs2f]
  have hcs:(s2.cls.set ix (Fz s2.cls[ix] (kP [UInt8.ofNat k])))=(kS s2 c k).cls:=by unfold kS;dsimp only;rw [Bn hc2,hix];simp only [Int.toNat_natCast];rw [Bn hixl]
  refine Zx [1,2,3,8,9,10,11,34] rfl ⟨k+1,kS s2 c k,v9,_,_,by omega,by rw [eR,← hsm,hst],aH hs2ok hcc (by rw [Bn hc2,hix];omega),rfl,rfl,Bz hs Z25⟩
 refine Wp 4 [0] hs rfl<|Wu 7 [0] hs rfl<|Ah ?_
 obtain rfl:k=256:=by omega
 have hs:=hs.f1
 obtain ⟨_,hG_hf9,hf9,hs⟩:=hs.fixRow noM
 have hs:=hs.f1
 obtain ⟨_,hG_hf10,hf10,hs⟩:=hs.fixRow noM
 replace hf9:=hf9.mono hG_hf10
 refine Bi (vs:=[_,_]) results281 rfl ⟨rfl,rfl,trivial⟩ ?_
 try dsimp only [tup]
 have hmm:sm=Mi t B R:=hsm
 exact ⟨_,[],hs.done,rfl,_,_,rfl,by rw [← hmm];exact hf9,by rw [← hmm];exact clsL_of hf10 hmo.c4⟩
theorem PL250:places prog 250=some [(0,1),(1,1),(2,1)]:=by kernel_rfl
theorem eS:TI prog 33 (Vn) 1 24:=TI.of kR
def En (G:Ghost) (vs:List Value) (l:List (List Nat)):Prop:=Cj (fun v r=>Cr G v r) vs l
theorem En.mono {G G':Ghost} (h:G.le G') {vs:List Value} {l:List (List Nat)} (hl:En G vs l):En G' vs l:=Cj.mono (fun _ _ hn=>hn.mono h) hl
theorem En.snoc {G:Ghost} {vs:List Value} {l:List (List Nat)} {v:Value} {r:List Nat} (hl:En G vs l) (h:Cr G v r):En G (vs++[v]) (l++[r]):=Cj.snoc hl h
theorem En.one {G:Ghost}:∀ {vs:List Value} {l:List (List Nat)},En G vs l→∀ y∈vs,y.oneCell'=true
  | [],_,_,y,hy=>by cases hy
  | v::vs,r::l,h,y,hy=>by
    rcases List.mem_cons.1 hy with rfl | hy
    · obtain ⟨A,c,rfl,_⟩:=h.1;rfl
    · exact En.one h.2 y hy
theorem En.fin {G:Ghost} {v:Value} {n:Nat} {vs:List Value} {l:List (List Nat)} (h:Sl G v 1 n vs) (hn:n=l.length) (hl:En G vs l):LN G v l:=by
  refine Be.ofSl (cs:=vs.map fun v=>[v]) h (by clear h hl;induction vs with | nil=>rfl | cons v vs ih=>rw [List.map_cons,List.flatten_cons,← ih];rfl) hn ?_ sM
  revert hl
  clear h hn
  induction vs generalizing l with
  | nil=>intro h;cases l with
    | nil=>trivial
    | cons _ _=>cases h
  | cons v vs ih=>intro h;cases l with
    | nil=>cases h
    | cons r l=>exact ⟨⟨v,rfl,h.1⟩,ih h.2⟩
theorem eT {n:Nat}:∀ (r:List Nat) (st:Rch),st.1.length=n→(∀ x∈st.2,x<n)→st.2.length+st.1.count false=n→1≤st.2.length→(∀ x∈r,x<n) →
    (r.foldl Vx st).1.length=n∧(∀ x∈(r.foldl Vx st).2,x<n)∧(r.foldl Vx st).2.length+(r.foldl Vx st).1.count false=n∧1≤(r.foldl Vx st).2.length
  | [],_,h1,h2,h3,h4,_=>⟨h1,h2,h3,h4⟩
  | x::r,(sn,l),h1,h2,h3,h4,h5=>by
    have hx:=h5 x sM
    rw [List.foldl_cons]
    cases hb:sn[x]'(by dsimp only at h1;omega) with
    | true=>rw [oO (st:=(sn,l)) (by dsimp only at h1 ⊢;omega) hb];exact eT r _ h1 h2 h3 h4 fun y hy=>h5 y (by simp [hy])
    | false =>
      rw [iO (st:=(sn,l)) (by dsimp only at h1 ⊢;omega) hb]
      have hc:=Pc (l:=sn) (x:=x) (by dsimp only at h1;omega) hb
      dsimp only at h1 h2 h3 h4
      refine eT r _ (by rw [List.length_set];exact h1) ?_ (by simp only [List.length_append,List.length_singleton];omega) sM fun y hy=>h5 y (by simp [hy])
      intro y hy
      rcases List.mem_append.1 hy with hy | hy
      · exact h2 y hy
      · rw [List.mem_singleton.1 hy];exact hx
theorem iS {t:Tb} (hok:t.ok) {L:List Nat}:∀ (f i:Nat) (st:Rch),st.1.length=t.next.length→(∀ x∈st.2,x<t.next.length)→st.2.length+st.1.count false=t.next.length→1≤st.2.length→Zj t f i st=some L →
    1≤L.length∧L.length≤t.next.length∧∀ x∈L,x<t.next.length
  | 0,_,_,_,_,_,_,h=>by cases h
  | f+1,i,st,h1,h2,h3,h4,h=>by
    rw [Zj] at h
    split at h
    · rename_i hi
      have hs:st.2.getD i 0<t.next.length:=h2 _ (by rw [Bn hi];exact List.getElem_mem _)
      obtain ⟨a,b,c,d⟩:=eT (n:=t.next.length) (t.next.getD (st.2.getD i 0) []) st h1 h2 h3 h4 (by rw [Bn hs];exact (hok.2.2.2.2.1 _ (List.getElem_mem _)).2)
      exact iS hok f (i+1) _ a b c d h
    · injection h with h;subst h
      exact ⟨h4,by omega,h2⟩
theorem rX {t:Tb} (hok:t.ok) {L:List Nat} (h:Zo t=some L):1≤L.length∧L.length≤t.next.length∧∀ x∈L,x<t.next.length:=by
  have h1:=hok.1
  refine iS hok _ _ _ ?_ ?_ ?_ ?_ h
  · simp
  · intro x hx;simp only [List.mem_singleton] at hx;omega
  · have:=Pc (l:=List.replicate t.next.length false) (x:=0) Nj sM
    simp only [List.count_replicate_self] at this
    simp only [List.length_singleton];omega
  · simp
structure RfOk (n:Nat) (l:List Nat) (st:Rf):Prop where
  kl:st.keys.length=st.reps.length
  nl:st.next.length=n
  lt:∀ x∈st.next,x<st.reps.length∨x=0
  mem:∀ x∈st.reps,x∈l
theorem rfP_ok {t:Tb} {b:List Nat} {n:Nat} {l:List Nat} {st:Rf} {s:Nat} (h:RfOk n l st) (hs:s∈l):RfOk n l (tW t b st s)∧1≤(tW t b st s).reps.length∧(tW t b st s).reps.length≤st.reps.length+1:=by
  obtain ⟨ks,nx,rp⟩:=st
  have hkl:ks.length=rp.length:=h.kl
  by_cases hk:Da (Ue t b s) ks<ks.length
  · rw [oP hk]
    refine ⟨⟨h.kl,by simpa using h.nl,fun x hx=>?_,h.mem⟩,by dsimp only;omega,by dsimp only;omega⟩
    rcases List.mem_or_eq_of_mem_set hx with hx | rfl
    · exact h.lt x hx
    · left;dsimp only;omega
  · rw [oQ hk]
    refine ⟨⟨by simp [hkl],by simpa using h.nl,fun x hx=>?_,fun x hx=>?_⟩,by simp,by simp⟩
    · rcases List.mem_or_eq_of_mem_set hx with hx | rfl
      · rcases h.lt x hx with h1 | h1
        · left;dsimp only at h1 ⊢;rw [List.length_append];omega
        · exact .inr h1
      · left;simp
    · rcases List.mem_append.1 hx with hx | hx
      · exact h.mem x hx
      · rw [List.mem_singleton.1 hx];exact hs
theorem wE {t:Tb} {b:List Nat} {n:Nat} {l:List Nat}:∀ (r:List Nat) (st:Rf),RfOk n l st→(∀ x∈r,x∈l)→(r≠[]∨1≤st.reps.length)→RfOk n l (r.foldl (tW t b) st)∧1≤(r.foldl (tW t b) st).reps.length∧(r.foldl (tW t b) st).reps.length≤st.reps.length+r.length
  | [],st,h,_,h2=>⟨h,h2.resolve_left sM,by simp⟩
  | s::r,st,h,h1,_=>by
    rw [List.foldl_cons]
    obtain ⟨a,b1,c⟩:=rfP_ok (t:=t) (b:=b) h (h1 s sM)
    obtain ⟨d,e,f⟩:=wE (t:=t) (b:=b) r _ a (fun x hx=>h1 x (by simp [hx])) (.inr b1)
    exact ⟨d,e,by rw [List.length_cons];omega⟩
theorem oU {t:Tb} {n:Nat} {l B R:List Nat} (hl:1≤l.length):∀ (f:Nat) (b:List Nat) (c:Nat),b.length=n→vM t l f b c=some (B,R)→B.length=n∧1≤R.length∧R.length≤l.length∧(∀ x∈B,x<R.length)∧∀ x∈R,x∈l
  | 0,_,_,_,h=>by cases h
  | f+1,b,c,hb,h=>by
    have key:=wE (t:=t) (b:=b) (n:=n) (l:=l) l ⟨[],List.replicate b.length 0,[]⟩ ⟨rfl,by simpa using hb,fun x hx=>.inr (List.eq_of_mem_replicate hx),by simp⟩ (fun _ h=>h) (.inl (by intro e;subst e;simp at hl))
    rw [vM] at h
    split at h
    · injection h with h;rw [Prod.mk.injEq] at h
      obtain ⟨rfl,rfl⟩:=h
      obtain ⟨a,b1,c1⟩:=key
      refine ⟨a.nl,b1,by simp only [List.length_nil,Nat.zero_add] at c1;exact c1,fun x hx=>?_,a.mem⟩
      rcases a.lt x hx with h | h
      · exact h
      · rw [h];exact b1
    · exact oU hl f _ _ key.1.nl h
theorem lS {t:Tb} {l B R:List Nat} (hl:1≤l.length) (h:Ry t l=some (B,R)):B.length=t.next.length∧1≤R.length∧R.length≤l.length∧(∀ x∈B,x<R.length)∧∀ x∈R,x∈l:=by
  refine oU hl _ _ _ ?_ h
  unfold rfB
  have:∀ (l:List Nat) (b:List Nat),(l.foldl (fun b s=>if t.acc.getD s false=true then b.set s 1 else b) b).length=b.length:=by
    intro l
    induction l with
    | nil=>intro b;rfl
    | cons s l ih=>intro b;rw [List.foldl_cons,ih];split<;>simp
  rw [this];simp
theorem rY {t:Tb} (hok:t.ok) {B R:List Nat} (hcl:t.cell.length=256):Vy t 256 (Mi t B R):=lR hcl hok.2.2.2.2.2 256 oM
theorem iT {t:Tb} (hok:t.ok) {B R:List Nat} (hcl:t.cell.length=256):∀ c∈(Mi t B R).cells,c<t.cells:=by
  have key:∀ (xs:List Nat) (st:Mg),(∀ x∈xs,x<256)→(∀ c∈st.cells,c<t.cells)→∀ c∈(xs.foldl (rP t B R) st).cells,c<t.cells:=by
    intro xs
    induction xs with
    | nil=>intro st _ h;exact h
    | cons x xs ih =>
      intro st hx h
      rw [List.foldl_cons]
      refine ih _ (fun y hy=>hx y (by simp [hy])) ?_
      have hc:t.cell.getD x 0<t.cells:=by rw [Bn (by rw [hcl];exact hx x sM)];exact hok.2.2.2.2.2 _ (List.getElem_mem _)
      intro c hcm
      unfold rP at hcm
      dsimp only at hcm
      split at hcm
      · unfold oI at hcm
        dsimp only at hcm
        split at hcm
        · exact h c hcm
        · rcases List.mem_append.1 hcm with hcm | hcm
          · exact h c hcm
          · rw [List.mem_singleton.1 hcm];exact hc
      · exact h c hcm
  exact key _ _ (fun x hx=>List.mem_range.1 hx) sM
structure Uj (m k:Nat) (st:Cn):Prop where
  pl:st.place.length=m
  od:st.order.length+st.place.count (-1)=m
  lt:∀ x∈st.order,x<m
  rg:∀ z∈st.place,z=-1∨(0≤z∧z<st.order.length)
  rw:st.row.length=k
theorem iU {l:List Int} {x:Nat} {z:Int} (h:x<l.length) (hx:l[x]=-1) (hz:0≤z):(l.set x z).count (-1)+1=l.count (-1):=by
  rw [List.count_set (h:=h),hx]
  have:0<l.count (-1):=List.count_pos_iff.2 (by rw [← hx];exact List.getElem_mem h)
  have hz1:(z == -1)=false:=by simp;omega
  simp [hz1];omega
theorem wF {t:Tb} {b:List Nat} {s c x:Nat} {st:Cn} (h:x=b.getD (t.to s c) 0):cnP t b s st c =
    (let st:=if st.place.getD x 0<0 then { st with place:=st.place.set x (st.order.length:Int),order:=st.order++[x] } else st
     { st with row:=st.row++[(st.place.getD x 0).toNat] }):=by unfold cnP;rw [h]
theorem oV {m k:Nat} {st:Cn} {x:Nat} (h:Uj m k st) (hx:x<m) {st2:Cn} (h2:st2=if st.place.getD x 0<0 then { st with place:=st.place.set x (st.order.length:Int),order:=st.order++[x] } else st) :
    Uj m k st2∧0≤st2.place.getD x 0∧st2.place.getD x 0<st2.order.length:=by
  obtain ⟨pl,od,rw_⟩:=st
  have hp:pl.length=m:=h.pl
  have hl:x<pl.length:=by omega
  split at h2
  · rename_i hz
    subst h2
    dsimp only at hz
    rw [Bn hl] at hz
    have hz1:pl[x]=-1:=by rcases h.rg _ (List.getElem_mem hl) with e | e;exact e;omega
    have hc:=iU (z:=(od.length:Int)) hl hz1 oM
    have hod:od.length+pl.count (-1)=m:=h.od
    refine ⟨⟨by simpa using hp,?_,?_,?_,h.rw⟩,?_,?_⟩
    · simp only [List.length_append,List.length_singleton];omega
    · intro y hy
      rcases List.mem_append.1 hy with hy | hy
      · exact h.lt y hy
      · rw [List.mem_singleton.1 hy];exact hx
    · intro z hz
      rcases List.mem_or_eq_of_mem_set hz with hz | rfl
      · rcases h.rg z hz with e | e
        · exact .inl e
        · right;simp only [List.length_append,List.length_singleton];dsimp only at e;omega
      · right;simp only [List.length_append,List.length_singleton];omega
    · simp [hl]
    · simp [hl];omega
  · rename_i hz
    subst h2
    dsimp only at hz ⊢
    refine ⟨h,by omega,?_⟩
    rw [Bn hl] at hz ⊢
    rcases h.rg _ (List.getElem_mem hl) with e | e
    · omega
    · exact e.2
theorem cn_init {m b:Nat} (hb:b<m):Uj m 0 ⟨(List.replicate m (-1)).set b 0,[b],[]⟩:=by
  have hc:=iU (l:=List.replicate m (-1)) (x:=b) (z:=0) (by simpa using hb) sM oM
  rw [List.count_replicate_self] at hc
  refine ⟨by simp,by simp only [List.length_singleton];omega,?_,?_,rfl⟩
  · intro x hx;rw [List.mem_singleton.1 hx];exact hb
  · intro z hz
    rcases List.mem_or_eq_of_mem_set hz with hz | rfl
    · exact .inl (List.eq_of_mem_replicate hz)
    · right;simp
theorem Kk {r:List Nat} {n k v:Nat} (hr:r.length=k) (h:k<n):(r++List.replicate (n-k) 0).set k v=(r++[v])++List.replicate (n-(k+1)) 0:=by
  subst hr
  rw [List.set_append_right _ _ oM,Nat.sub_self,show n-r.length=(n-(r.length+1))+1 by omega,List.replicate_succ,List.set_cons_zero,List.append_assoc];rfl
theorem Uj.snoc {m k:Nat} {st:Cn} {v:Nat} (h:Uj m k st):Uj m (k+1) { st with row:=st.row++[v] }:=⟨h.pl,h.od,h.lt,h.rg,by simp [h.rw]⟩
theorem Uj.le {m k:Nat} {st:Cn} (h:Uj m k st):st.order.length≤m:=by have:=h.od;omega
theorem Uj.fresh {m k:Nat} {st:Cn} {x:Nat} (h:Uj m k st) (hx:x<st.place.length) (hz:st.place.getD x 0<0):st.order.length+1≤m:=by
  rw [Bn hx] at hz
  have hz1:st.place[x]=-1:=by rcases h.rg _ (List.getElem_mem hx) with e | e;exact e;omega
  have:0<st.place.count (-1):=List.count_pos_iff.2 (by rw [← hz1];exact List.getElem_mem hx)
  have:=h.od
  omega
theorem cnG_pos {t:Tb} {b r cells od:List Nat} {pl:List Int} {f i:Nat} {nx:List (List Nat)} {ac:List Bool} {D:List (List Nat)×List Bool} (h:cnG t b r cells f i pl od nx ac=some D):0<f:=by
  cases f with
  | zero=>cases h
  | succ f=>omega
theorem cnG_go {t:Tb} {b r cells od:List Nat} {pl:List Int} {f i s:Nat} {nx:List (List Nat)} {ac:List Bool} {D:List (List Nat)×List Bool} {st:Cn} (hi:i<od.length) (hs:s=r.getD (od.getD i 0) 0) (hst:st=cells.foldl (cnP t b s) ⟨pl,od,[]⟩) (h:cnG t b r cells (f+1) i pl od nx ac=some D) :
    cnG t b r cells f (i+1) st.place st.order (nx++[st.row]) (ac++[t.acc.getD s false])=some D:=by
  rw [cnG,if_pos hi] at h
  subst hs hst
  exact h
theorem cnG_end {t:Tb} {b r cells od:List Nat} {pl:List Int} {f i:Nat} {nx:List (List Nat)} {ac:List Bool} {D:List (List Nat)×List Bool} (hi:od.length≤i) (h:cnG t b r cells f i pl od nx ac=some D):D=(nx,ac):=by
  cases f with
  | zero=>cases h
  | succ f=>rw [cnG,if_neg oM] at h;injection h with h;exact h.symm
def Oh (G:Ghost) (v:Value) (d:My):Prop:=∃ vc vn va,v=.agg #[vc,vn,va]∧Pt G vc d.cls∧LN G vn d.next∧Hq G va d.acc
theorem Oh.mono {G G':Ghost} (h:G.le G') {v:Value} {d:My} (hd:Oh G v d):Oh G' v d:=by
  obtain ⟨vc,vn,va,e,h1,h2,h3⟩:=hd
  exact ⟨vc,vn,va,e,h1.mono h,h2.mono h,h3.mono h⟩
theorem lT {t:Tb} {D:My} (h:Eu t=some D):∃ l B R,Zo t=some l∧Ry t l=some (B,R)∧∃ nx ac,cnG t B R (Mi t B R).cells (R.length+1) 0 ((List.replicate R.length (-1)).set (B.getD 0 0) 0) [B.getD 0 0] [] []=some (nx,ac)∧D=⟨(Mi t B R).cls,nx,ac⟩:=by
  unfold Eu at h
  split at h
  · cases h
  · rename_i l hl
    split at h
    · cases h
    · rename_i B R hR
      simp only at h
      split at h
      · cases h
      · rename_i nx ac hc
        injection h with h
        exact ⟨l,B,R,hl,hR,nx,ac,hc,h.symm⟩
theorem Lq {G:Ghost} {v:Value} {t:Tb} {D:My} (ht:bO G v t) (hok:t.ok) (hD:Eu t=some D) :
  Ai prog 244 [v] G [] fun r G' H'=>H'=[]∧Oh G' r D:=by
 obtain ⟨un,ua,rfl,hcl,hN,hA⟩:=ht
 obtain ⟨An,cn,rfl⟩:=Be.slice hN
 obtain ⟨Aa,ca,rfl,_⟩:=id hA
 obtain ⟨L,B,R,hL,hRf,nx0,ac0,hcg,rfl⟩:=lT hD
 obtain ⟨hL1,hL2,hLN⟩:=rX hok hL
 obtain ⟨hBl,hR1,hR2,hBR,hRL⟩:=lS hL1 hRf
 have hn2:=hok.2.1
 have hal:=hok.2.2.1
 have hrows:=hok.2.2.2.2.1
 have hmg:=rY (B:=B) (R:=R) hok hcl
 have hRN:∀ x∈R,x<t.next.length:=fun x hx=>hLN x (hRL x hx)
 have hml:=hmg.le
 have hmc:=iT (B:=B) (R:=R) hok hcl
 obtain ⟨M,hM⟩:∃ M,M=Mi t B R:=⟨_,rfl⟩
 rw [← hM] at hcg hmg hml hmc ⊢
 refine Ai.of_T [(0,_)] func244 rfl ntmps244 sM rfl fun w0 hs=>?_
 have hN0:=hN
 have hA0:=hA
 refine Wt 2 [] hs rfl<|O_s (Dw hs rfl (cs:=_) rfl fun b1 _ hs =>O_s (Sa hs zeroValue250 rfl fun b2 _ hs=>Wp 2 [0] hs rfl<|Bc [0,1,2,3,4,5,6,7,8] hs kR ?_))
 replace hs:=hs.drew
 refine Xt 0 hs rfl (Yk 1 rfl (Bp hcl)<|Xt 1 hs rfl (Yk 1 rfl (Bp hcl) ?_))
 have hle:=hs.le
 refine Xo 2 rfl (Sc (rch_ok ⟨_,_,rfl,hcl,hN,hA⟩ hok hL) hs rfl fun v1 G' H' _ hR hG20 hs=>?_)
 obtain ⟨rfl,hLv⟩:=hR
 replace hs:=hs.n rfl
 replace hN:=hN.mono hG20
 replace hA:=hA.mono hG20
 obtain ⟨AL,cL,rfl,_⟩:=id hLv
 refine Am hs hle hG20 (lSr _) ?_
 have hle:=hs.le
 refine Xo 3 rfl (Sc (rW ⟨_,_,rfl,hcl,hN,hA⟩ hok hLv oM hLN hRf) hs rfl fun v2 G' H' _ hR hG21 hs=>?_)
 obtain ⟨rfl,vb,vr,rfl,hB,hR⟩:=hR
 replace hs:=hs.n rfl
 replace hN:=hN.mono hG21
 replace hA:=hA.mono hG21
 obtain ⟨AB,cB,rfl,_⟩:=id hB
 obtain ⟨AR,cR,rfl,_⟩:=id hR
 refine Am hs hle hG21 (lSr _)<|Xr [4,5,6,7,8] [] hs rfl<|Xe (Zk [1,2,3,4] rfl<|Wu 2 [] hs rfl<|Zy hs (Yk 1 rfl (Bp hcl)<|Wp 2 [] hs rfl<|O_s (Sc (wD ⟨_,_,rfl,hcl,hN,hA⟩ hok hB hR hBl oM hRN) hs rfl fun v3 G' H' _ hR hG28 hs=>?_)))
 obtain ⟨rfl,vc,vk,rfl,hCe,hCl⟩:=hR
 replace hs:=hs.n rfl
 replace hN:=hN.mono hG28
 replace hA:=hA.mono hG28
 replace hB:=hB.mono hG28
 replace hR:=hR.mono hG28
 rw [← hM] at hCe hCl
 obtain ⟨Ae,ce,rfl,_⟩:=id hCe
 obtain ⟨Ac,cc,rfl⟩:=Be.slice hCl
 refine Wp 9 [0] hs rfl<|Zy hs (Ba zeroValue250 rfl PL250 rfl (cs:=[_,_,_]) rfl<|O_s (Sa hs zeroValue250 rfl fun b7 _ hs=>O_n (Es hs sizeOf250 rfl rfl (vs:=[_,_,_]) rfl (rfl) sM (cs':=[_,_,_]) rfl fun _ hs =>Wp 5 [0] hs rfl<|O_s (Fx (n:=R.length) (m:=R.length) hs underlying33 Lb rfl rfl rfl oM oM oM fun b35 _ hs =>Wp 5 [0] hs rfl<|Zy hs (Eo hB 0 underlying33 sizeOf3 rfl rfl rfl oM fun p37 hp37=>?_)))))
 obtain ⟨b0,hb0⟩:∃ x,x=B[0]'oM:=⟨_,rfl⟩
 rw [← hb0] at hp37
 have hb0R:b0<R.length:=hBR b0 (by rw [hb0];exact List.getElem_mem _)
 refine Zy hs (Yg rfl (hp37)<|O_s (Ca hs underlying33 sizeOf3 zeroValue3 rfl rfl dC dC rfl (cs:=[_]) rfl rfl fun v4 _ hs _ =>Wp 9 [8,1,2,3,4,5,7,8,9,0] hs rfl ?_))
 have hs:=hs.f3.f4.f4.f3.f4
 refine Zl [1,2,3,4,5,7,8,9,41,42] (fun m E w=>∃ (k:Nat) (vo:Value) (G2:Ghost),k≤R.length∧m=R.length-k∧Cr G2 (.slice AB B.length cB) B∧Cr G2 (.slice AR R.length cR) R∧Cr G2 (.slice Ae M.cells.length ce) M.cells∧Pt G2 (.slice Ac M.cls.length cc) M.cls∧E=⟨[],[(1,Vp b1),(2,Vp b2),(3,.slice AB B.length cB),(4,.slice AR R.length cR),(5,.slice Ae M.cells.length ce),(7,Vp b7),(8,Vs b35 R.length R.length),(9,vo),(41,Vi ((R.length:Nat):Int)),(42,Vi (k:Int))]⟩∧St ⟨w0,G,Bl []⟩ G2 [.row 3 1 (Vs b35 R.length R.length) R.length ((List.replicate k (-1)++List.replicate (R.length-k) 0).map Kp),.row 3 1 (vo) [b0].length ([b0].map Cm),.blk b7 250 [.slice Ac M.cls.length cc,Vn,Vn],.blk b1 300 (Cg t.cell t.cells (.slice An t.next.length cn) (.slice Aa t.acc.length ca)),.blk b2 250 [Vn,Vn,Vn]] w) rfl (⟨0,_,_,by omega,rfl,hB,hR,hCe,hCl,rfl,by rw [List.replicate_zero,List.nil_append,Nat.sub_zero,List.map_replicate];exact hs⟩) fun m E w hI=>?_
 obtain ⟨k,vo,G2,hk,rfl,hB,hR,hCe,hCl,rfl,hs⟩:=hI
 have hN:=hN0.mono hs.le
 have hA:=hA0.mono hs.le
 refine Wt 2 [] hs rfl<|Zy hs (Yc rfl (fun h43=>?_) fun h43=>?_)
 ·
  refine Wp 14 [0,0] hs rfl<|Zy hs (Bj (k) underlying33 sizeOf3 rfl rfl rfl oM<|O_n (Ct hs sizeOf3 rfl rfl rfl oM fun _ hs =>Wp 2 [0] hs rfl<|Zy hs (Ya (s:=((k+1:Nat):Int)) rfl<|Wp 1 [] hs rfl<|Zx [1,2,3,4,5,7,8,9,41,42] rfl ⟨k+1,_,_,by omega,rfl,hB,hR,hCe,hCl,rfl,by rw [← dH oM,List.map_set];exact hs⟩)))
 refine Wp 4 [0] hs rfl<|Wu 4 [] hs rfl<|Zy hs (Eo hB 0 underlying33 sizeOf3 rfl rfl rfl oM fun p51 hp51=>?_)
 rw [← hb0] at hp51
 refine Zy hs (Yg rfl (hp51)<|Zy hs (Bj (b0) underlying33 sizeOf3 rfl rfl rfl oM<|O_n (Ct hs sizeOf3 rfl rfl rfl oM fun _ hs =>Wp 6 [0,0] hs rfl ?_)))
 obtain rfl:k=R.length:=by omega
 rw [Nat.sub_self,List.replicate_zero,List.append_nil] at hs
 have hs:=hs.nilRow 4 1
 have hs:=hs.nilRow 33 1
 have hs:=hs.f6.f6.f3.f3.f6.f6.f6
 have hc0:Uj R.length 0 ⟨(List.replicate R.length (-1)).set b0 0,[b0],[]⟩:=cn_init hb0R
 have hb0g:B.getD 0 0=b0:=by rw [Bn oM,hb0]
 rw [hb0g] at hcg
 rw [show ((List.replicate R.length (-1)).map Kp).set b0 (Vi 0)=(((List.replicate R.length (-1)).set b0 0).map Kp) by rw [List.map_set]] at hs
 refine Zl [1,2,3,4,5,7,8,9,11] (fun m E w=>∃ (f i:Nat) (pl:List Int) (od:List Nat) (nx:List (List Nat)) (ac:List Bool) (vs:List Value) (vo vn va:Value) (G2:Ghost),cnG t B R M.cells f i pl od nx ac=some (nx0,ac0)∧Uj R.length 0 ⟨pl,od,[]⟩∧nx.length=i∧ac.length=i∧vs.length=i∧i≤od.length∧En G2 vs nx∧m=f∧Cr G2 (.slice AB B.length cB) B∧Cr G2 (.slice AR R.length cR) R∧Cr G2 (.slice Ae M.cells.length ce) M.cells∧Pt G2 (.slice Ac M.cls.length cc) M.cls∧E=⟨[],[(1,Vp b1),(2,Vp b2),(3,.slice AB B.length cB),(4,.slice AR R.length cR),(5,.slice Ae M.cells.length ce),(7,Vp b7),(8,Vs b35 R.length R.length),(9,vo),(11,Vi (i:Int))]⟩∧St ⟨w0,G,Bl []⟩ G2 [.row 3 1 (Vs b35 R.length R.length) R.length (pl.map Kp),.row 3 1 (vo) od.length (od.map Cm),.blk b7 250 [.slice Ac M.cls.length cc,vn,va],.row 33 1 (vn) nx.length vs,.row 4 1 (va) ac.length (ac.map Bb),.blk b1 300 (Cg t.cell t.cells (.slice An t.next.length cn) (.slice Aa t.acc.length ca)),.blk b2 250 [Vn,Vn,Vn]] w) rfl (⟨R.length+1,0,_,[b0],[],[],[],_,_,_,_,hcg,hc0,rfl,rfl,rfl,by simp,trivial,rfl,hB,hR,hCe,hCl,rfl,hs⟩) fun m E w hI=>?_
 obtain ⟨f,i,pl,od,nx,ac,vs,vo,vn,va,G2,hg,hcn,hnl,hacl,hvl,hil,hrs,rfl,hB,hR,hCe,hCl,rfl,hs⟩:=hI
 have hN:=hN0.mono hs.le
 have hA:=hA0.mono hs.le
 refine Wt 5 [] hs rfl<|Zy hs (Dq 1 rfl underlying33 rfl hs<|Zy hs (Yc rfl (fun h57=>?_) fun h57=>?_))
 ·
  refine Wp 3 [0] hs rfl ?_
  obtain ⟨o,ho⟩:∃ o,o=od[i]'oM:=⟨_,rfl⟩
  have hoR:o<R.length:=hcn.lt o (by rw [ho];exact List.getElem_mem _)
  refine Wu 7 [] hs rfl<|Zy hs (Hd (j:=((i:Nat):Int)) (i) 1 rfl underlying33 sizeOf3 rfl rfl rfl oM (u:=Cm o) (by rw [ho];exact Mk oM) hs fun p63 hp63 =>Zy hs (Iq isAgg3 rfl hp63 ?_))
  obtain ⟨s,hse⟩:∃ s,s=R[o]'oM:=⟨_,rfl⟩
  refine Zy hs (Eo hR o underlying33 sizeOf3 rfl rfl rfl oM fun p65 hp65=>?_)
  rw [← hse] at hp65
  have hsN:s<t.next.length:=hRN s Z32
  refine Zy hs (Yg rfl (hp65)<|Wp 6 [0] hs rfl<|O_s (Fx (n:=M.cells.length) (m:=M.cells.length) hs underlying33 Lb rfl rfl rfl oM oM oM fun b69 _ hs =>Wp 9 [11,1,2,3,4,5,7,8,9,11,12,13,0] hs rfl ?_))
  have hs:=hs.f7.f7.f7.f7.f7.f7.f7.f7
  rw [Sh] at hs
  refine Zl [1,2,3,4,5,7,8,9,11,12,13,70,71,72] (fun m E w=>∃ (k:Nat) (st:Cn) (vo:Value) (G2:Ghost),k≤M.cells.length∧st=(M.cells.take k).foldl (cnP t B s) ⟨pl,od,[]⟩∧Uj R.length k st∧i+1≤st.order.length∧En G2 vs nx∧m=M.cells.length-k∧Cr G2 (.slice AB B.length cB) B∧Cr G2 (.slice AR R.length cR) R∧Cr G2 (.slice Ae M.cells.length ce) M.cells∧Pt G2 (.slice Ac M.cls.length cc) M.cls∧E=⟨[],[(1,Vp b1),(2,Vp b2),(3,.slice AB B.length cB),(4,.slice AR R.length cR),(5,.slice Ae M.cells.length ce),(7,Vp b7),(8,Vs b35 R.length R.length),(9,vo),(11,Vi (i:Int)),(12,Vi (s:Int)),(13,Vs b69 M.cells.length M.cells.length),(70,.slice Ae M.cells.length ce),(71,Vi ((M.cells.length:Nat):Int)),(72,Vi (k:Int))]⟩∧St ⟨w0,G,Bl []⟩ G2 [.row 3 1 (Vs b69 M.cells.length M.cells.length) M.cells.length ((st.row++List.replicate (M.cells.length-k) 0).map Cm),.row 3 1 (Vs b35 R.length R.length) R.length (st.place.map Kp),.row 3 1 (vo) st.order.length (st.order.map Cm),.blk b7 250 [.slice Ac M.cls.length cc,vn,va],.row 33 1 (vn) nx.length vs,.row 4 1 (va) ac.length (ac.map Bb),.blk b1 300 (Cg t.cell t.cells (.slice An t.next.length cn) (.slice Aa t.acc.length ca)),.blk b2 250 [Vn,Vn,Vn]] w) rfl (⟨0,⟨pl,od,[]⟩,_,_,by omega,rfl,hcn,(show i+1≤od.length from by omega),hrs,rfl,hB,hR,hCe,hCl,rfl,hs⟩) fun m E w hI=>?_
  obtain ⟨k,st,vo,G2,hk,hst,hcn,hil,hrs,rfl,hB,hR,hCe,hCl,rfl,hs⟩:=hI
  have hN:=hN0.mono hs.le
  have hA:=hA0.mono hs.le
  refine Wt 2 [] hs rfl<|Zy hs (Yc rfl (fun h73=>?_) fun h73=>?_)
  ·
   refine Wp 9 [0] hs rfl<|Zy hs (Eo hCe k underlying33 sizeOf3 rfl rfl rfl oM fun p75 hp75=>?_)
   obtain ⟨c,hce⟩:∃ c,c=M.cells[k]'oM:=⟨_,rfl⟩
   rw [← hce] at hp75
   have hcc:c<t.cells:=hmc c (by rw [hce];exact List.getElem_mem _)
   refine Zy hs (Yg rfl (hp75)<|Wp 7 [0,257] hs rfl<|Zy hs (Db 6 isAgg41 rfl rfl (Jj hcl)<|Wp 1 [] hs rfl<|Zy hs (Bv hN s underlying41 sizeOf33 rfl rfl rfl oM fun p81 c81 hp81 hc81 hR81=>?_)))
   obtain ⟨rr,herr⟩:∃ r,r=t.next[s]'oM:=⟨_,rfl⟩
   rw [← herr] at hR81
   have hlrr:rr.length=t.cells∧∀ x∈rr,x<t.next.length:=hrows rr Z29
   obtain ⟨u81,rfl,hrr⟩:=hR81
   obtain ⟨A81,c81,rfl,_⟩:=id hrr
   refine Zy hs (Yg rfl (hp81 0 (.slice A81 rr.length c81) rfl)<|Wp 1 [] hs rfl<|Zy hs (Eo hrr c underlying33 sizeOf3 rfl rfl rfl oM fun p84 hp84=>?_))
   obtain ⟨y,hye⟩:∃ y,y=rr[c]'oM:=⟨_,rfl⟩
   rw [← hye] at hp84
   have hyN:y<t.next.length:=hlrr.2 y (by rw [hye];exact List.getElem_mem _)
   refine Zy hs (Yg rfl (hp84)<|Zy hs (Eo hB y underlying33 sizeOf3 rfl rfl rfl oM fun p86 hp86=>?_))
   obtain ⟨x,hxe⟩:∃ x,x=B[y]'oM:=⟨_,rfl⟩
   rw [← hxe] at hp86
   have hxR:x<R.length:=hBR x Z33
   refine Zy hs (Yg rfl (hp86)<|Wp 7 [16,1,2,3,4,5,7,8,9,11,12,13,14,16,70,71,72] hs rfl<|Zy hs (Bj (x) underlying33 sizeOf3 rfl rfl rfl oM ?_))
   obtain ⟨z,hz⟩:∃ z,z=st.place[x]'(by rw [hcn.pl];exact hxR):=⟨_,rfl⟩
   refine Zy hs (Dg 1 rfl isAgg3 rfl (show (st.place.map Kp)[x]?=some (Kp z) from by rw [hz];exact Is (by rw [hcn.pl];exact hxR))<|Zy hs (Yc rfl (fun h92=>?_) fun h92=>?_))
   ·
    have hz0:st.place.getD x 0<0:=by rw [Bn (by rw [hcn.pl];exact hxR),← hz];exact h92
    have hfr:=hcn.fresh (x:=x) (by rw [hcn.pl];exact hxR) hz0
    refine Wp 7 [0] hs rfl<|Zy hs (Dq 2 rfl underlying33 rfl hs<|Zy hs (Bj (x) underlying33 sizeOf3 rfl rfl rfl oM<|O_n (Ct hs.f1 sizeOf3 rfl rfl rfl oM fun _ hs =>Wp 4 [16,1,2,3,4,5,7,8,9,11,12,13,14,16,70,71,72] hs rfl<|O_s (Ca hs underlying33 sizeOf3 zeroValue3 rfl rfl dC dC rfl (cs:=[_]) rfl rfl fun v5 _ hs _=>?_))))
    obtain ⟨_,hG100,hl100,hs⟩:=hs.fixRow noM
    replace hB:=hB.mono hG100
    replace hR:=hR.mono hG100
    replace hCe:=hCe.mono hG100
    replace hCl:=hCl.mono hG100
    replace hrs:=hrs.mono hG100
    refine O_s (Bf hs.f2 underlying33 Lb rfl dC rfl rfl (hl100) (Fj rfl) (by have:=hfr;omega) (by have:=hfr;omega) fun v6 _ hs =>Wp 2 [0] hs rfl ?_)
    have hs:=hs.f7.f7.f7.f7.f7.f5.f6.f7
    replace hs:=hs.weak hs.le (gLr _) (lSa [_,_,_,_,_,_,_,_] _)
    obtain ⟨st2,hs2e⟩:∃ s,s=({ st with place:=st.place.set x (st.order.length:Int),order:=st.order++[x] }:Cn):=⟨_,rfl⟩
    have hs2f:st2=if st.place.getD x 0<0 then { st with place:=st.place.set x (st.order.length:Int),order:=st.order++[x] } else st:=by rw [if_pos hz0];exact hs2e
    obtain ⟨hc2n,hz2,hz2l⟩:=oV hcn hxR hs2f
    have hi2l:i+1≤st2.order.length:=by rw [hs2e];first|exact hil|(simp only [List.length_append,List.length_singleton];omega)
    replace hs:=Bz (H':=[.row 3 1 (Vs b69 M.cells.length M.cells.length) M.cells.length ((st2.row++List.replicate (M.cells.length-k) 0).map Cm),.row 3 1 (Vs b35 R.length R.length) R.length (st2.place.map Kp),.row 3 1 (v6) st2.order.length (st2.order.map Cm),.blk b7 250 [.slice Ac M.cls.length cc,vn,va],.row 33 1 (vn) nx.length vs,.row 4 1 (va) ac.length (ac.map Bb),.blk b1 300 (Cg t.cell t.cells (.slice An t.next.length cn) (.slice Aa t.acc.length ca)),.blk b2 250 [Vn,Vn,Vn]]) hs (by rw [hs2e];simp [Cm,Kp,List.map_set])
    have hx2:x<st2.place.length:=by rw [hc2n.pl];exact hxR
    obtain ⟨ix,hix⟩:=Int.eq_ofNat_of_zero_le hz2
    have hr2l:=hc2n.rw
    have hxg:x=B.getD (t.to s c) 0:=by rw [iR hsN (by rw [← herr];omega)];simp only [← herr,← hye];rw [Bn oM,← hxe]
    have hstp:cnP t B s st c={ st2 with row:=st2.row++[ix] }:=by rw [wF hxg];simp only [← hs2f,hix];rfl
    rw [Bn hx2] at hix
    refine Wu 5 [] hs rfl<|Zy hs (Bj (x) underlying33 sizeOf3 rfl rfl rfl oM<|Zy hs (Dg 1 rfl isAgg3 rfl ((Is hx2).trans (by rw [hix]))<|Zy hs (Bj (k) underlying33 sizeOf3 rfl rfl rfl oM<|O_n (Ct hs sizeOf3 rfl rfl rfl oM fun _ hs =>Wp 2 [14,1,2,3,4,5,7,8,9,11,12,13,70,71,72] hs rfl<|Zy hs (Ya (s:=((k+1:Nat):Int)) rfl<|Wp 1 [] hs rfl ?_)))))
    have hs:=hs.f7.f7.f7.f7.f7.f7.f7.f7
    refine Zx [1,2,3,4,5,7,8,9,11,12,13,70,71,72] rfl ⟨k+1,{ st2 with row:=st2.row++[ix] },_,_,by omega,by rw [Fh _ _ _ _ oM,← hce,← hst,hstp],hc2n.snoc,hi2l,hrs,rfl,hB,hR,hCe,hCl,rfl,Bz hs (by rw [← Kk hr2l oM];simp [Cm,List.map_set])⟩
   have hz0:¬ st.place.getD x 0<0:=by rw [Bn (by rw [hcn.pl];exact hxR),← hz];exact h92
   refine Wp 3 [0] hs rfl ?_
   have hs:=hs.f7.f7.f7.f7.f7.f7.f7.f7
   replace hs:=hs.weak hs.le (gLr _) (lSa [_,_,_,_,_,_,_,_] _)
   obtain ⟨st2,hs2e⟩:∃ s,s=st:=⟨_,rfl⟩
   have hs2f:st2=if st.place.getD x 0<0 then { st with place:=st.place.set x (st.order.length:Int),order:=st.order++[x] } else st:=by rw [if_neg hz0];exact hs2e
   obtain ⟨hc2n,hz2,hz2l⟩:=oV hcn hxR hs2f
   have hi2l:i+1≤st2.order.length:=by rw [hs2e];first|exact hil|(simp only [List.length_append,List.length_singleton];omega)
   replace hs:=Bz (H':=[.row 3 1 (Vs b69 M.cells.length M.cells.length) M.cells.length ((st2.row++List.replicate (M.cells.length-k) 0).map Cm),.row 3 1 (Vs b35 R.length R.length) R.length (st2.place.map Kp),.row 3 1 (vo) st2.order.length (st2.order.map Cm),.blk b7 250 [.slice Ac M.cls.length cc,vn,va],.row 33 1 (vn) nx.length vs,.row 4 1 (va) ac.length (ac.map Bb),.blk b1 300 (Cg t.cell t.cells (.slice An t.next.length cn) (.slice Aa t.acc.length ca)),.blk b2 250 [Vn,Vn,Vn]]) hs (by rw [hs2e])
   have hx2:x<st2.place.length:=by rw [hc2n.pl];exact hxR
   obtain ⟨ix,hix⟩:=Int.eq_ofNat_of_zero_le hz2
   have hr2l:=hc2n.rw
   have hxg:x=B.getD (t.to s c) 0:=by rw [iR hsN (by rw [← herr];omega)];simp only [← herr,← hye];rw [Bn oM,← hxe]
   have hstp:cnP t B s st c={ st2 with row:=st2.row++[ix] }:=by rw [wF hxg];simp only [← hs2f,hix];rfl
   rw [Bn hx2] at hix
   refine Wu 5 [] hs rfl<|Zy hs (Bj (x) underlying33 sizeOf3 rfl rfl rfl oM<|Zy hs (Dg 1 rfl isAgg3 rfl ((Is hx2).trans (by rw [hix]))<|Zy hs (Bj (k) underlying33 sizeOf3 rfl rfl rfl oM<|O_n (Ct hs sizeOf3 rfl rfl rfl oM fun _ hs =>Wp 2 [14,1,2,3,4,5,7,8,9,11,12,13,70,71,72] hs rfl<|Zy hs (Ya (s:=((k+1:Nat):Int)) rfl<|Wp 1 [] hs rfl ?_)))))
   have hs:=hs.f7.f7.f7.f7.f7.f7.f7.f7
   refine Zx [1,2,3,4,5,7,8,9,11,12,13,70,71,72] rfl ⟨k+1,{ st2 with row:=st2.row++[ix] },_,_,by omega,by rw [Fh _ _ _ _ oM,← hce,← hst,hstp],hc2n.snoc,hi2l,hrs,rfl,hB,hR,hCe,hCl,rfl,Bz hs (by rw [← Kk hr2l oM];simp [Cm,List.map_set])⟩
  refine Wp 4 [0] hs rfl ?_
  obtain rfl:k=M.cells.length:=by omega
  rw [Nat.sub_self,List.replicate_zero,List.append_nil] at hs
  rw [List.take_length] at hst
  obtain ⟨_,hG_hrow,hrow,hs⟩:=hs.fixRow noM
  replace hA:=hA.mono hG_hrow
  replace hB:=hB.mono hG_hrow
  replace hR:=hR.mono hG_hrow
  replace hCe:=hCe.mono hG_hrow
  replace hCl:=hCl.mono hG_hrow
  replace hrs:=hrs.mono hG_hrow
  have hrl:=hcn.rw
  have hol:st.order.length≤R.length:=hcn.le
  replace hrow:Cr _ (Vs b69 M.cells.length M.cells.length) st.row:=(show Cr _ _ _ from by unfold Cr;rw [hrl];exact hrow)
  refine Wu 5 [1,2] hs rfl<|O_s (Ca hs underlying41 sizeOf33 zeroValue33 rfl rfl dC dC rfl (cs:=[_]) rfl rfl fun v7 _ hs _=>?_)
  obtain ⟨_,hG113,hl113,hs⟩:=hs.fixRow noM
  replace hA:=hA.mono hG113
  replace hB:=hB.mono hG113
  replace hR:=hR.mono hG113
  replace hCe:=hCe.mono hG113
  replace hCl:=hCl.mono hG113
  replace hrs:=hrs.mono hG113
  replace hrow:=hrow.mono hG113
  refine O_s (Bf hs.f3 underlying41 eS rfl dC rfl rfl (hl113) (Fj rfl) oM oM fun v8 _ hs =>Wp 1 [1] hs rfl<|O_n (Sd hs.f3 rfl (hs.f3.rowOne 1 rfl) fun _ hs=>Wp 1 [0] hs rfl<|Bc [0,1,2,3,4,5,6,7] hs kR ?_))
  replace hs:=hs.drew
  refine Xr [0,1,2] [2,0,258] hs rfl<|Xt 3 hs rfl (Db 5 isAgg64 rfl rfl (Uh hcl)<|Xr [4] [] hs rfl<|Xt 5 hs rfl (Jc s underlying64 sizeOf4 hA rfl rfl rfl (Ix oM) fun p121 hp121 =>Xt 6 hs rfl (Yg rfl (hp121) ?_)))
  have hle:=hs.le
  refine Xo 7 rfl (Ca hs underlying64 sizeOf4 zeroValue4 rfl rfl dC dC rfl (cs:=[_]) rfl rfl fun v9 _ hs _=>?_)
  obtain ⟨_,hG123,hl123,hs⟩:=hs.fixRow noM
  replace hB:=hB.mono hG123
  replace hR:=hR.mono hG123
  replace hCe:=hCe.mono hG123
  replace hCl:=hCl.mono hG123
  replace hrs:=hrs.mono hG123
  replace hrow:=hrow.mono hG123
  refine Am hs hle hG123 (lSr _)<|Xa 8 rfl (Bf hs.f4 underlying64 oN rfl dC rfl rfl (hl123) (Fj rfl) oM oM fun v10 _ hs =>Xa 9 rfl (S_y hs rfl (Yf 2 rfl<|Xn 10 rfl (Sd hs.f1 rfl (hs.f1.rowOne 1 rfl) fun _ hs=>Xe (Zk [1,2,3,4,5,7,8,9,11] rfl<|Wu 2 [] hs rfl<|Zy hs (Ya (s:=((i+1:Nat):Int)) rfl<|Wp 1 [] hs rfl ?_))))))
  have hs:=hs.f6.f6.f3.f4.f4.f6.f6
  have hfp:=cnG_pos hg
  obtain ⟨f1,rfl⟩:∃ g,m=g+1:=⟨m-1,by omega⟩
  have hgo:=cnG_go (s:=s) (show i<od.length by omega) (by rw [Bn (show i<od.length by omega),← ho,Bn hoR,hse]) hst hg
  rw [Bn (show s<t.acc.length by omega)] at hgo
  refine Zx [1,2,3,4,5,7,8,9,11] rfl ⟨f1,i+1,st.place,st.order,_,_,_,vo,v8,v10,_,hgo,⟨hcn.pl,hcn.od,hcn.lt,hcn.rg,rfl⟩,by simp [hnl],by simp [hacl],by simp [hvl],hil,En.snoc hrs hrow,rfl,hB,hR,hCe,hCl,rfl,Bz (hs.weak hs.le (gLr _) (lSa [_,_,_,_,_,_,_] _)) (by simp [Bb])⟩
 refine Wp 3 [0] hs rfl ?_
 have hfe:=cnG_end oM hg
 rw [Prod.mk.injEq] at hfe
 obtain ⟨rfl,rfl⟩:=hfe
 have hs:=hs.f3
 obtain ⟨_,hG_hfn,hfn,hs⟩:=hs.fixRow noM
 replace hCl:=hCl.mono hG_hfn
 replace hrs:=hrs.mono hG_hfn
 have hs:=hs.f3
 obtain ⟨_,hG_hfa,hfa,hs⟩:=hs.fixRow noM
 replace hCl:=hCl.mono hG_hfa
 replace hrs:=hrs.mono hG_hfa
 replace hfn:=hfn.mono hG_hfa
 obtain ⟨Fn,fn,rfl,_⟩:=id hfn
 obtain ⟨Fa,fa,rfl,_⟩:=id hfa
 refine Wu 3 [2] hs rfl<|O_n (Es hs.f4 sizeOf250 rfl rfl (vs:=[_,_,_]) rfl (rfl) sM (cs':=[_,_,_]) rfl fun _ hs =>Wp 1 [0] hs rfl<|Ah<|Zz results244 (Rb 0 hs rfl rF) ?_)
 exact ⟨_,[],hs.done,rfl,_,_,_,rfl,hCl,En.fin hfn rfl hrs,hfa⟩
def cC (k:Nat) (bs:List UInt8) (a:List Nat):List Nat:=bs.foldl (fun a b=>a.set b.toNat k) a
theorem aI (k:Nat):∀ (bs:List UInt8) (a:List Nat),(cC k bs a).length=a.length:=by
  intro bs
  induction bs with
  | nil=>intro a;rfl
  | cons b bs ih=>intro a;show (cC k bs _).length=_;rw [ih,List.length_set]
theorem rZ (k:Nat) (bs:List UInt8) (a:List Nat) (j:Nat) (h:j<bs.length):cC k (bs.take (j+1)) a=(cC k (bs.take j) a).set bs[j].toNat k:=by
  unfold cC;rw [Dc _ _ bs j h]
def cD (l:List (List Nat)) (k:Nat):List Nat:=((l.zipIdx).take k).foldl (fun cell ci=>cC ci.2 (Bu ci.1) cell) (List.replicate 256 0)
theorem sA {l:List (List Nat)} {k:Nat} (h:k<l.length):cD l (k+1)=cC k (Bu l[k]) (cD l k):=by
  unfold cD
  rw [Dc _ _ _ k (by rw [List.length_zipIdx];exact h),List.getElem_zipIdx];simp only [Nat.zero_add]
theorem Lr (l:List (List Nat)) (k:Nat):(cD l k).length=256:=by
  unfold cD
  have:∀ (xs:List (List Nat×Nat)) (a:List Nat),(xs.foldl (fun cell ci=>cC ci.2 (Bu ci.1) cell) a).length=a.length:=by
    intro xs
    induction xs with
    | nil=>intro a;rfl
    | cons x xs ih=>intro a;rw [List.foldl_cons,ih,aI]
  rw [this,List.length_replicate]
theorem oW (d:My):Cf d=⟨cD d.cls d.cls.length,d.cls.length,d.next,d.acc⟩:=by
  unfold Cf cD
  rw [List.take_of_length_le (by rw [List.length_zipIdx];exact Nat.le_refl _)];rfl
theorem dI {cell:List Nat} {n k x:Nat} {vn va:Value} (h:cell.length=256) (hk:k<256):(Cg cell n vn va).set k (Ji x)=Cg (cell.set k x) n vn va:=by
  unfold Cg;rw [List.set_append_left _ _ kZ,List.map_set]
theorem Gi {cell:List Nat} {n:Nat} {vn va:Value} (h1:vn.oneCell'=true) (h2:va.oneCell'=true):((Cg cell n vn va).all fun v=>v.oneCell')=true:=by
  unfold Cg
  rw [List.all_append,Bool.and_eq_true]
  exact ⟨List.all_eq_true.2 fun v hv=>by obtain ⟨x,_,rfl⟩:=List.mem_map.1 hv;rfl,by simp only [List.all_cons,List.all_nil,h1,h2,Bool.and_true];rfl⟩
theorem Kl {G:Ghost} {v:Value} {d:My} (hd:Oh G v d) (hcl:d.cls.length≤256) (hT:Tab G) :
  Ai prog 249 [v] G [] fun r G' H'=>H'=[]∧bO G' r (Cf d):=by
 obtain ⟨vc,vn,va,rfl,hC,hN,hA⟩:=hd
 obtain ⟨Ac,cc,rfl⟩:=Be.slice hC
 obtain ⟨An,cn,rfl⟩:=Be.slice hN
 obtain ⟨Aa,ca,rfl,_⟩:=id hA
 refine Ai.of_T [(0,_)] func249 rfl ntmps249 sM rfl fun w0 hs=>?_
 have hC0:=hC
 have hN0:=hN
 have hA0:=hA
 have hT0:=hT
 refine Wt 2 [] hs rfl<|O_s (Sb hs rfl fun b1 _ hs=>O_s (Bd hs zeroValue300 (cs:=(Cg (List.replicate 256 0) 0 (Vn) (Vn))) rfl fun b2 _ hs =>Wp 10 [0,0,1,1,1,2,1] hs rfl<|Zy hs (Ba zeroValue300 rfl (pl:=[(0,256),(256,1),(257,1),(258,1)]) kR rfl (cs:=(Cg (List.replicate 256 0) d.cls.length (.slice An d.next.length cn) (.slice Aa d.acc.length ca))) kR<|O_s (Bd hs zeroValue300 (cs:=(Cg (List.replicate 256 0) 0 (Vn) (Vn))) rfl fun b3 _ hs =>O_n (Sw hs rfl Z7 Z7 (Gi rfl rfl) fun _ hs=>Wp 9 [0,0,2,0] hs rfl ?_)))))
 have hs:=hs.f1.f2.f2
 refine Zl [2,3,17,18,19] (fun m E w=>∃ (k:Nat) (G2:Ghost),k≤d.cls.length∧m=d.cls.length-k∧E=⟨[],[(2,Vp b2),(3,Vp b3),(17,.slice Ac d.cls.length cc),(18,Vi ((d.cls.length:Nat):Int)),(19,Vi (k:Int))]⟩∧St ⟨w0,G,Bl []⟩ G2 [.blk b3 300 (Cg (cD d.cls k) d.cls.length (.slice An d.next.length cn) (.slice Aa d.acc.length ca)),.blk b1 250 [.slice Ac d.cls.length cc,.slice An d.next.length cn,.slice Aa d.acc.length ca],.blk b2 300 (Cg (List.replicate 256 0) 0 (Vn) (Vn))] w) rfl (⟨0,_,by omega,rfl,rfl,hs⟩) fun m E w hI=>?_
 obtain ⟨k,G2,hk,rfl,rfl,hs⟩:=hI
 have hC:=hC0.mono hs.le
 have hN:=hN0.mono hs.le
 have hA:=hA0.mono hs.le
 have hT:=hT0.mono hs.le
 refine Wt 2 [] hs rfl<|Zy hs (Yc rfl (fun h20=>?_) fun h20=>?_)
 ·
  refine Wp 9 [0] hs rfl<|Zy hs (Bv hC k underlying248 sizeOf127 rfl rfl rfl oM fun p22 c22 hp22 hc22 hR22=>?_)
  obtain ⟨rfl,h4,h64⟩:=hR22
  refine Zy hs (Cu (vs:=List.map Af (d.cls[k]'oM)) isAgg127 sizeOf127 rfl hp22 hc22<|O_s (Bd hs zeroValue127 (cs:=(List.map Af [0,0,0,0])) rfl fun b5 _ hs =>Wp 1 [] hs rfl<|O_n (Sw hs rfl (vs:=(List.map Af (d.cls[k]'oM))) Z7 Z7 (Df _) fun _ hs=>Wp 3 [0] hs rfl<|Zy hs (Yk 0 rfl Z7<|O_s (Sc (vW h4 h64 hT) hs rfl fun v1 G' H' _ hR hG25 hs=>?_)))))
  obtain ⟨rfl,hbb⟩:=hR
  replace hs:=hs.n rfl
  replace hC:=hC.mono hG25
  replace hN:=hN.mono hG25
  replace hA:=hA.mono hG25
  replace hT:=hT.mono hG25
  obtain ⟨A25,c25,rfl,_⟩:=id hbb
  have hb256:=Zi h4 h64
  refine Wp 3 [0] hs rfl ?_
  have hs:=hs.f3.f3.f3
  refine Zl [2,3,4,17,18,19,25,26,27] (fun m E w=>∃ (j:Nat) (G2:Ghost),j≤(Bu (d.cls[k]'oM)).length∧Cv G2 (.slice A25 (Bu (d.cls[k]'oM)).length c25) (Bu (d.cls[k]'oM))∧m=(Bu (d.cls[k]'oM)).length-j∧E=⟨[],[(2,Vp b2),(3,Vp b3),(4,Vi (k:Int)),(17,.slice Ac d.cls.length cc),(18,Vi ((d.cls.length:Nat):Int)),(19,Vi (k:Int)),(25,(.slice A25 (Bu (d.cls[k]'oM)).length c25)),(26,Vi (((Bu (d.cls[k]'oM)).length:Nat):Int)),(27,Vi (j:Int))]⟩∧St ⟨w0,G,Bl []⟩ G2 [.blk b3 300 (Cg (cC k ((Bu (d.cls[k]'oM)).take j) (cD d.cls k)) d.cls.length (.slice An d.next.length cn) (.slice Aa d.acc.length ca)),.blk b1 250 [.slice Ac d.cls.length cc,.slice An d.next.length cn,.slice Aa d.acc.length ca],.blk b2 300 (Cg (List.replicate 256 0) 0 (Vn) (Vn))] w) rfl (⟨0,_,by omega,hbb,rfl,rfl,hs.weak hs.le (gLr _) (lSa [_,_,_] _)⟩) fun m E w hI=>?_
  obtain ⟨j,G2,hj,hbb,rfl,rfl,hs⟩:=hI
  have hC:=hC0.mono hs.le
  have hN:=hN0.mono hs.le
  have hA:=hA0.mono hs.le
  have hT:=hT0.mono hs.le
  refine Wt 2 [] hs rfl<|Zy hs (Yc rfl (fun h28=>?_) fun h28=>?_)
  ·
   refine Wp 8 [0] hs rfl<|Zy hs (eG hbb j underlying29 sizeOf5 rfl rfl rfl oM fun p29 hp29 =>Zy hs (Yg rfl (hp29)<|Wp 6 [0,0] hs rfl<|Zy hs (Bq ((Bu (d.cls[k]'oM))[j].toNat) underlying298 sizeOf3 rfl rfl rfl (by have:=(Bu (d.cls[k]'oM))[j].toNat_lt;omega)<|O_n (Hs hs sizeOf3 rfl rfl rfl (by rw [Bp (by rw [aI];exact Lr _ _)];have:=(Bu (d.cls[k]'oM))[j].toNat_lt;omega) (cs':=(Cg (cC k ((Bu (d.cls[k]'oM)).take (j+1)) (cD d.cls k)) d.cls.length (.slice An d.next.length cn) (.slice Aa d.acc.length ca))) (by rw [rZ _ _ _ j oM];exact dI (by rw [aI];exact Lr _ _) (by have:=(Bu (d.cls[k]'oM))[j].toNat_lt;omega)) fun _ hs =>Wp 2 [0] hs rfl<|Zy hs (Ya (s:=((j+1:Nat):Int)) rfl<|Wp 1 [] hs rfl ?_)))))
   have hs:=hs.f2.f2.f2
   refine Zx [2,3,4,17,18,19,25,26,27] rfl ⟨j+1,_,by omega,hbb,rfl,rfl,hs⟩
  refine Wp 4 [0] hs rfl ?_
  refine Zr<|Zy hs (Ya (s:=((k+1:Nat):Int)) rfl<|Wp 1 [] hs rfl ?_)
  have hs:=hs.f2.f2.f2
  refine Zx [2,3,17,18,19] rfl ⟨k+1,_,by omega,rfl,rfl,by rw [List.take_of_length_le oM,← sA oM] at hs;exact hs.weak hs.le (gLr _) (lSa [_,_,_] _)⟩
 refine Wp 4 [0] hs rfl<|Wu 2 [] hs rfl<|Zy hs (Yk 0 rfl (Bp (Lr _ _))<|O_n (Sw hs.f2 rfl Z7 Z7 (Gi rfl rfl) fun _ hs=>Wp 1 [0] hs rfl<|Ah<|Zz results249 (Rb 0 hs rfl Z7) ?_))
 obtain rfl:k=d.cls.length:=by omega
 exact ⟨_,[],hs.done,rfl,by rw [oW];exact ⟨_,_,rfl,Lr _ _,hN,hA⟩⟩
theorem Ml {G:Ghost} {v:Value} {t:Tb} {D:My} (ht:bO G v t) (hok:t.ok) (hD:Eu t=some D) (hn:D.next.length≤64) :
  Ai prog 257 [v] G [] fun r G' H'=>H'=[]∧∃ vd,r=.tuple #[vd,Vi 0]∧Oh G' vd D:=by
 obtain ⟨un,ua,rfl,hcl,hN,hA⟩:=ht
 obtain ⟨An,cn,rfl⟩:=Be.slice hN
 obtain ⟨Aa,ca,rfl,_⟩:=id hA
 refine Ai.of_T [(0,_)] func257 rfl ntmps257 sM rfl fun w0 hs=>?_
 have hN0:=hN
 have hA0:=hA
 refine Wt 2 [] hs rfl<|O_s (Dw hs rfl (cs:=_) rfl fun b1 _ hs =>O_s (Sa hs zeroValue250 rfl fun b2 _ hs=>Wp 4 [0] hs rfl<|Zy hs (Yk 1 rfl (Bp hcl)<|O_s (Sc (Lq ⟨_,_,rfl,hcl,hN,hA⟩ hok hD) hs rfl fun v1 G' H' _ hR hG6 hs=>?_))))
 obtain ⟨rfl,hd⟩:=hR
 replace hs:=hs.n rfl
 obtain ⟨dc,dn,da,rfl,hdC,hdN,hdA⟩:=hd
 obtain ⟨Cd,cd,rfl⟩:=Be.slice hdC
 obtain ⟨Nd,nd,rfl⟩:=Be.slice hdN
 obtain ⟨Ad,ad,rfl,_⟩:=id hdA
 refine O_s (Sa hs zeroValue250 rfl fun b4 _ hs=>O_n (Sg hs rfl (rfl) fun _ hs=>Wp 7 [0,1,0] hs rfl<|Zy hs (Di rfl rfl rfl oM<|Wp 6 [0,0] hs rfl<|O_n (Sg hs.f1 rfl (rfl) fun _ hs=>Wp 2 [0] hs rfl<|Ah ?_))))
 have hr:=hs
 refine Bi (vs:=[_,_]) results257 rfl ⟨Bk 0 hr isAgg250 sizeOf250 rfl (cs:=[_,_,_]) rfl rfl,rfl,trivial⟩ ?_
 try dsimp only [tup]
 exact ⟨_,[],hs.done,rfl,_,rfl,_,_,_,rfl,hdC,hdN,hdA⟩
def aJ (t:Tb) (s k:Nat):Bool:=(t.acc.zipIdx.drop k).any fun p=>p.1 && decide (Ei (s / 2 ^ p.2) 1=1)
theorem Qq {t:Tb} {s k:Nat} (h:k<t.acc.length):aJ t s k=(((t.acc[k]'h) && decide (Ei (s / 2 ^ k) 1=1)) || aJ t s (k+1)):=by
  unfold aJ
  rw [List.drop_eq_getElem_cons (by rw [List.length_zipIdx];exact h),List.any_cons,List.getElem_zipIdx]
  simp only [Nat.zero_add]
theorem someK_0 {t:Tb} {s:Nat}:Oe t s=aJ t s 0:=rfl
theorem sB {t:Tb} {s:Nat}:aJ t s t.acc.length=false:=by
  unfold aJ;rw [List.drop_eq_nil_of_le (by rw [List.length_zipIdx];exact Nat.le_refl _)];rfl
theorem eU {G:Ghost} {v:Value} {t:Tb} {s:Nat} (ht:bO G v t) (h64:t.acc.length≤64) :
  Ai prog 256 [v,.agg #[Af s]] G [] fun r _ H'=>H'=[]∧r=.bool (Oe t s):=by
 obtain ⟨un,ua,rfl,hcl,hN,hA⟩:=ht
 obtain ⟨An,cn,rfl⟩:=Be.slice hN
 obtain ⟨Aa,ca,rfl,_⟩:=id hA
 refine Ai.of_T [(0,_),(1,_)] func256 rfl ntmps256 sM rfl fun w0 hs=>?_
 have hA0:=hA
 refine Wt 2 [] hs rfl<|O_s (Dw hs rfl (cs:=_) rfl fun b2 _ hs =>O_s (Sb hs rfl fun b3 _ hs=>Wp 6 [0,258] hs rfl<|Zy hs (Db 1 isAgg64 rfl rfl (Uh hcl)<|Wp 3 [0] hs rfl ?_)))
 have hs:=hs.f1.f1
 refine Zl [3,8,9,10] (fun m E w=>∃ (k:Nat) (G2:Ghost),k≤t.acc.length∧Oe t s=aJ t s k∧m=t.acc.length-k∧E=⟨[],[(3,Vp b3),(8,.slice Aa t.acc.length ca),(9,Vi ((t.acc.length:Nat):Int)),(10,Vi (k:Int))]⟩∧St ⟨w0,G,Bl []⟩ G2 [.blk b3 309 [Af s],.blk b2 300 (Cg t.cell t.cells (.slice An t.next.length cn) (.slice Aa t.acc.length ca))] w) rfl (⟨0,_,by omega,someK_0,rfl,rfl,hs⟩) fun m E w hI=>?_
 obtain ⟨k,G2,hk,hso,rfl,rfl,hs⟩:=hI
 have hA:=hA0.mono hs.le
 refine Wt 2 [] hs rfl<|Zy hs (Yc rfl (fun h11=>?_) fun h11=>?_)
 ·
  refine Wp 9 [0] hs rfl<|Zy hs (Jc k underlying64 sizeOf4 hA rfl rfl rfl (Ix oM) fun p13 hp13=>?_)
  obtain ⟨q,hq⟩:∃ q,q=t.acc[k]'oM:=⟨_,rfl⟩
  rw [← hq] at hp13
  obtain ⟨w,hw⟩:∃ w,w=decide (Ei (s / 2 ^ k) 1=1):=⟨_,rfl⟩
  refine Zy hs (Yg rfl (hp13)<|Wp 7 [0] hs rfl ?_)
  cases q
  ·
   refine Wp 11 [0] hs rfl<|Zy hs (Ya (s:=((k+1:Nat):Int)) rfl<|Wp 1 [] hs rfl<|Zx [3,8,9,10] rfl ⟨k+1,_,by omega,by rw [hso,Qq oM,← hq];rfl,rfl,rfl,hs⟩)
  refine Zg hs rfl (Du 0 underlying309 sizeOf125 rfl rfl rfl dC (m:=0) rfl<|Wp 2 [0] hs rfl<|Zg hs rfl (Jp k oM rfl rfl<|Zg hs rfl (Hu (b:=1) rfl rfl<|Zg hs rfl (Qi (t:=w) rfl rfl rfl (by rw [hw,decide_eq_true_iff];show _=_↔_;omega)<|Wp 2 [0] hs rfl<|Fv rfl (fun h23=>?_) (fun h23=>?_)))))
  ·
   refine Wu 4 [0] hs rfl<|Ah<|Zz results256 rfl ?_
   exact ⟨_,[],hs.done,rfl,congrArg Value.bool (by rw [hso,Qq oM,← hq,← hw,h23];rfl)⟩
  refine Wu 2 [] hs rfl<|Zy hs (Ya (s:=((k+1:Nat):Int)) rfl<|Wp 1 [] hs rfl<|Zx [3,8,9,10] rfl ⟨k+1,_,by omega,by rw [hso,Qq oM,← hq,← hw,h23];rfl,rfl,rfl,hs⟩)
 refine Wp 4 [0] hs rfl<|Wu 4 [0] hs rfl<|Ah<|Zz results256 rfl ?_
 exact ⟨_,[],hs.done,rfl,congrArg Value.bool (by rw [hso,show k=t.acc.length by omega,sB])⟩
theorem keyP:Ie prog 70 cT:=Ie.pair underlying70 sizeOf3 isAgg3 underlying3
theorem oX {a b:Tb} {st:Jn} {x:Nat} {p:Nat×Nat} (hp:p=(a.cell.getD x 0,b.cell.getD x 0)) (h:Da p st.keys<st.keys.length):jnP a b st x={ st with cell:=st.cell++[Da p st.keys] }:=by
  subst hp;unfold jnP;simp only [if_pos h]
theorem oY {a b:Tb} {st:Jn} {x:Nat} {p:Nat×Nat} (hp:p=(a.cell.getD x 0,b.cell.getD x 0)) (h:¬ Da p st.keys<st.keys.length):jnP a b st x=⟨st.keys++[p],st.cell++[st.bytes.length],st.bytes++[x]⟩:=by
  subst hp;unfold jnP;simp only [if_neg h]
structure JnOk (k:Nat) (st:Jn):Prop where
  nd:st.keys.Nodup
  kl:st.keys.length=st.bytes.length
  cl:st.cell.length=k
  le:st.bytes.length≤k
  lt:∀ c∈st.cell,c<st.bytes.length
  bt:∀ x∈st.bytes,x<k
theorem jnP_ok {a b:Tb} {k:Nat} {st:Jn} (h:JnOk k st):JnOk (k+1) (jnP a b st k):=by
  by_cases hp:Da (a.cell.getD k 0,b.cell.getD k 0) st.keys<st.keys.length
  · rw [oX rfl hp]
    refine ⟨h.nd,h.kl,by simp [h.cl],by have:=h.le;show st.bytes.length≤_;omega,fun c hc=>?_,fun x hx=>by have:=h.bt x hx;omega⟩
    rcases List.mem_append.1 hc with hc | hc
    · exact h.lt c hc
    · rw [List.mem_singleton.1 hc];have:=h.kl;show _<st.bytes.length;omega
  · rw [oY rfl hp]
    refine ⟨Pd h.nd hp,by simp [h.kl],by simp [h.cl],by have:=h.le;simp;omega,fun c hc=>?_,fun x hx=>?_⟩
    · rcases List.mem_append.1 hc with hc | hc
      · have:=h.lt c hc;simp;omega
      · rw [List.mem_singleton.1 hc];simp
    · rcases List.mem_append.1 hx with hx | hx
      · have:=h.bt x hx;omega
      · rw [List.mem_singleton.1 hx];omega
def kT (a b:Tb) (k:Nat):Jn:=(List.range k).foldl (jnP a b) ⟨[],[],[]⟩
theorem aK {a b:Tb} (k:Nat):kT a b (k+1)=jnP a b (kT a b k) k:=by unfold kT;rw [List.range_succ,List.foldl_append];rfl
theorem Qr {a b:Tb}:∀ k,JnOk k (kT a b k)
  | 0=>⟨List.nodup_nil,rfl,rfl,Nat.le_refl _,(fun c hc=>(List.not_mem_nil hc).elim),(fun c hc=>(List.not_mem_nil hc).elim)⟩
  | k+1=>by rw [aK];exact jnP_ok (Qr k)
theorem dJ (a b:Tb):Fq a b=kT a b 256:=rfl
def Ng (l:List Nat) (k:Nat):List Value:=List.map Ji (l++List.replicate (256-k) 0)
theorem dK {l:List Nat} {k v:Nat} (hl:l.length=k) (h:k<256):(Ng l k).set k (Ji v)=Ng (l++[v]) (k+1):=by
  unfold Ng;rw [← Kk hl h,List.map_set]
theorem Ls {l:List Nat} {k:Nat} (hl:l.length=k) (h:k≤256):(Ng l k).length=256:=by unfold Ng;simp;omega
theorem lU {l:List Nat} (hl:l.length=256):Ng l 256=l.map Ji:=by unfold Ng;rw [Nat.sub_self,List.replicate_zero,List.append_nil]
theorem aL {l:List Nat}:((l.map Ji).all fun v=>v.oneCell')=true:=by
  rw [List.all_eq_true];intro v hv;obtain ⟨x,_,rfl⟩:=List.mem_map.1 hv;rfl
theorem sC {l:List Nat} {k:Nat}:((Ng l k).all fun v=>v.oneCell')=true:=aL
theorem iW {G:Ghost} {v w:Value} {x y:Tb} (htx:bO G v x) (hty:bO G w y) :
  Ai prog 250 [v,w] G [] fun r G' H'=>H'=[]∧∃ vb,r=.tuple #[.agg ((Fq x y).cell.map Ji).toArray,vb]∧Cr G' vb (Fq x y).bytes:=by
 obtain ⟨ux,wx,rfl,hcx,hNx,hAx⟩:=htx
 obtain ⟨Nx,nx,rfl⟩:=Be.slice hNx
 obtain ⟨Ax,ax,rfl,_⟩:=id hAx
 obtain ⟨uy,wy,rfl,hcy,hNy,hAy⟩:=hty
 obtain ⟨Ny,ny,rfl⟩:=Be.slice hNy
 obtain ⟨Ay,ay,rfl,_⟩:=id hAy
 refine Ai.of_T [(0,_),(1,_)] func250 rfl ntmps250 sM rfl fun w0 hs =>Wt 2 [] hs rfl<|O_s (Dw hs rfl (cs:=_) rfl fun b2 _ hs =>O_s (Dw hs rfl (cs:=_) rfl fun b3 _ hs =>O_s (Bd hs zeroValue298 (cs:=(List.map Ji (List.replicate 256 0))) rfl fun b4 _ hs =>Wp 4 [0] hs rfl<|O_s (Bd hs zeroValue298 (cs:=(List.map Ji (List.replicate 256 0))) rfl fun b6 _ hs =>Wp 7 [0,0] hs rfl<|O_s (Jw hs fun b13 _ hs =>Wp 7 [0,0] hs rfl ?_)))))
 have hs:=hs.nilRow 3 1
 have hs:=hs.f4.f5.f5.f5.f4.f5
 refine Zl [2,3,4,6,7,8,14] (fun m E w=>∃ (k:Nat) (v7:Value) (G2:Ghost),k≤256∧m=256-k∧E=⟨[],[(2,Vp b2),(3,Vp b3),(4,Vp b4),(6,Vp b6),(7,v7),(8,.map (some b13)),(14,Vi (k:Int))]⟩∧St ⟨w0,G,Bl []⟩ G2 [.obj b13 (.map (Ff cT (kT x y k).keys).toArray (kT x y k).keys.length),.row 3 1 (v7) (kT x y k).bytes.length ((kT x y k).bytes.map Cm),.blk b6 298 (Ng (kT x y k).cell k),.blk b4 298 (Ng [] 0),.blk b2 300 (Cg x.cell x.cells (.slice Nx x.next.length nx) (.slice Ax x.acc.length ax)),.blk b3 300 (Cg y.cell y.cells (.slice Ny y.next.length ny) (.slice Ay y.acc.length ay))] w) rfl (⟨0,_,_,by omega,rfl,rfl,hs⟩) fun m E w hI=>?_
 obtain ⟨k,v7,G2,hk,rfl,rfl,hs⟩:=hI
 have hjo:=Qr (a:=x) (b:=y) k
 refine Wt 2 [] hs rfl<|Zy hs (Yc rfl (fun h15=>?_) fun h15=>?_)
 ·
  refine Wp 11 [0,0] hs rfl ?_
  obtain ⟨a0,ha0⟩:∃ z,z=x.cell.getD k 0:=⟨_,rfl⟩
  obtain ⟨b0,hb0⟩:∃ z,z=y.cell.getD k 0:=⟨_,rfl⟩
  have hnd:=hjo.nd
  refine Wu 1 [] hs rfl<|Bc [0,1,2,3,4,5,6,7,8,9] hs kR ?_
  replace hs:=hs.drew
  refine Xr [0,1] [0] hs rfl<|Xt 2 hs rfl (Bq k underlying298 sizeOf3 rfl rfl rfl oM<|Xt 3 hs rfl (Db 4 isAgg3 rfl rfl (show (Cg x.cell x.cells (.slice Nx x.next.length nx) (.slice Ax x.acc.length ax))[k]?=some (Cm a0) from by rw [ha0];exact aC hcx oM)<|Xr [4,5] [0] hs rfl<|Xt 6 hs rfl (Bq k underlying298 sizeOf3 rfl rfl rfl oM<|Xt 7 hs rfl (Db 5 isAgg3 rfl rfl (show (Cg y.cell y.cells (.slice Ny y.next.length ny) (.slice Ay y.acc.length ay))[k]?=some (Cm b0) from by rw [hb0];exact aC hcy oM)<|Xt 8 hs rfl (Co underlying70 sizeOf3 zeroValue70 rfl rfl (cs:=[_,_]) rfl ?_)))))
  have hle:=hs.le
  refine Xo 9 rfl (Sa hs zeroValue70 rfl fun b10 _ hs=>Am hs hle (gLr _) (List.sublist_cons_self _ _)<|Xn 10 rfl (Es hs sizeOf70 rfl rfl (vs:=[_,_]) rfl (rfl) sM (cs':=[_,_]) rfl fun _ hs =>Xe (Zk [2,3,4,6,7,8,9,10,14] rfl<|Wu 4 [0] hs rfl<|Zy hs (Jy (a:=(a0,b0)) 1 rfl underlying113 keyP zeroValue3 hnd rfl rfl (fun hno=>?_) (fun hyes=>?_)))))
  ·
   refine Wp 16 [0,0] hs rfl<|Zy hs (Dq 2 rfl underlying33 rfl hs<|Wp 7 [0,0] hs rfl<|O_n (Yd hs.f1 underlying113 keyP hnd hno rfl rfl (by rw [hjo.kl];rfl) fun _ hs =>Wp 4 [9,2,3,4,6,7,8,9,11,14] hs rfl<|O_s (Ca hs underlying33 sizeOf3 zeroValue3 rfl rfl dC dC rfl (cs:=[_]) rfl rfl fun v1 _ hs _=>?_)))
   obtain ⟨_,hG41,hl41,hs⟩:=hs.fixRow noM
   refine O_s (Bf hs.f2 underlying33 Lb rfl dC rfl rfl (hl41) (Fj rfl) (by have:=hjo.le;omega) (by have:=hjo.le;omega) fun v2 _ hs =>Wp 5 [0] hs rfl<|Zy hs (Bq k underlying298 sizeOf3 rfl rfl rfl oM<|O_n (Hs hs.f3 sizeOf3 rfl rfl rfl (by rw [Ls hjo.cl oM];omega) (cs':=Ng ((kT x y k).cell++[(kT x y k).bytes.length]) (k+1)) (dK hjo.cl oM) fun _ hs =>Wp 2 [0] hs rfl<|Zy hs (Ya (s:=((k+1:Nat):Int)) rfl<|Wp 1 [] hs rfl ?_))))
   have hs:=hs.f6.f6.f6.f3.f4.f5
   have hst:=oY (a:=x) (b:=y) (st:=kT x y k) (x:=k) (p:=(a0,b0)) (by rw [ha0,hb0]) hno
   refine Zx [2,3,4,6,7,8,14] rfl ⟨k+1,v2,_,by omega,rfl,rfl,Bz (hs.weak hs.le (gLr _) (lSa [_,_,_,_,_,_] _)) (by rw [aK,hst];simp [Cm])⟩
  refine Wp 17 [0,0] hs rfl<|Zy hs (Bq k underlying298 sizeOf3 rfl rfl rfl oM<|O_n (Hs hs.f3 sizeOf3 rfl rfl rfl (by rw [Ls hjo.cl oM];omega) (cs':=Ng ((kT x y k).cell++[(Da (a0,b0) (kT x y k).keys)]) (k+1)) (dK hjo.cl oM) fun _ hs =>Wp 2 [0] hs rfl<|Zy hs (Ya (s:=((k+1:Nat):Int)) rfl<|Wp 1 [] hs rfl ?_)))
  have hs:=hs.f6.f6.f6.f3.f6.f6
  have hst:=oX (a:=x) (b:=y) (st:=kT x y k) (x:=k) (p:=(a0,b0)) (by rw [ha0,hb0]) hyes
  refine Zx [2,3,4,6,7,8,14] rfl ⟨k+1,v7,_,by omega,rfl,rfl,Bz (hs.weak hs.le (gLr _) (lSa [_,_,_,_,_,_] _)) (by rw [aK,hst])⟩
 refine Wp 4 [0] hs rfl<|Wu 2 [] hs rfl<|Zy hs (Yk 2 rfl (Ls (Qr _).cl oM)<|Wp 1 [] hs rfl<|O_n (Ro hs.f3 sizeOf298 rfl rfl (vs:=_) Z2 Z2 (sC) fun _ hs =>Wp 2 [0] hs rfl<|Ah ?_))
 have hs:=hs.f2
 obtain ⟨_,hG_hf7,hf7,hs⟩:=hs.fixRow noM
 have hr:=hs
 refine Bi (vs:=[_,_]) results250 rfl ⟨Bk 0 hr isAgg298 sizeOf298 rfl (cs:=_) rfl Z2,rfl,trivial⟩ ?_
 try dsimp only [tup]
 obtain rfl:k=256:=by omega
 exact ⟨_,[],hs.done,rfl,_,by rw [lU hjo.cl];rfl,hf7⟩
def iX (t:Tb) (s b k:Nat):Nat:=(List.range k).foldl (fun out q=>if Ei (s / 2 ^ q) 1=1 then Xv out (2 ^ (t.to q (t.cell.getD b 0))) else out) 0
theorem aM {t:Tb} {s b k:Nat}:iX t s b (k+1)=if Ei (s / 2 ^ k) 1=1 then Xv (iX t s b k) (2 ^ (t.to k (t.cell.getD b 0))) else iX t s b k:=by
  unfold iX;rw [List.range_succ,List.foldl_append];rfl
theorem oZ {G:Ghost} {v:Value} {t:Tb} {s b:Nat} (ht:bO G v t) (hok:t.ok) (h64:t.next.length≤64) (hb:b<256) :
  Ai prog 253 [v,.agg #[Af s],Vi (b:Int)] G [] fun r _ H'=>H'=[]∧r=.agg #[Af (Zp t s b)]:=by
 obtain ⟨un,ua,rfl,hcl,hN,hA⟩:=ht
 obtain ⟨An,cn,rfl⟩:=Be.slice hN
 obtain ⟨Aa,ca,rfl,_⟩:=id hA
 obtain ⟨hn1,hn2,hal,hce5,hrows,hcells⟩:=hok
 refine Ai.of_T [(0,_),(1,_),(2,_)] func253 rfl ntmps253 sM rfl fun w0 hs=>?_
 have hN0:=hN
 refine Wt 2 [] hs rfl<|O_s (Dw hs rfl (cs:=_) rfl fun b3 _ hs =>O_s (Sb hs rfl fun b4 _ hs=>O_s (Sa hs zeroValue309 rfl fun b6 _ hs=>Wp 3 [0] hs rfl<|O_s (Sa hs zeroValue309 rfl fun b7 _ hs=>Wp 5 [0,257] hs rfl<|Zy hs (Db 3 isAgg41 rfl rfl (Jj hcl)<|Wp 3 [0] hs rfl ?_)))))
 have hs:=hs.f3.f2.f3.f3
 refine Zl [2,3,4,6,7,11,12] (fun m E w=>∃ (k:Nat) (G2:Ghost),k≤t.next.length∧m=t.next.length-k∧E=⟨[],[(2,Vi (b:Int)),(3,Vp b3),(4,Vp b4),(6,Vp b6),(7,Vp b7),(11,Vi ((t.next.length:Nat):Int)),(12,Vi (k:Int))]⟩∧St ⟨w0,G,Bl []⟩ G2 [.blk b7 309 [Af (iX t s b k)],.blk b4 309 [Af s],.blk b6 309 [Af 0],.blk b3 300 (Cg t.cell t.cells (.slice An t.next.length cn) (.slice Aa t.acc.length ca))] w) rfl (⟨0,_,by omega,rfl,rfl,hs⟩) fun m E w hI=>?_
 obtain ⟨k,G2,hk,rfl,rfl,hs⟩:=hI
 have hN:=hN0.mono hs.le
 refine Wt 2 [] hs rfl<|Zy hs (Yc rfl (fun h13=>?_) fun h13=>?_)
 ·
  refine Wp 11 [0,0] hs rfl ?_
  obtain ⟨w,hw⟩:∃ w,w=decide (Ei (s / 2 ^ k) 1=1):=⟨_,rfl⟩
  refine Wu 2 [] hs rfl<|Zy hs (Du 0 underlying309 sizeOf125 rfl rfl rfl dC (m:=0) rfl<|Wp 2 [1] hs rfl<|Zy hs (Jp k oM rfl rfl<|Zy hs (Hu (b:=1) rfl rfl<|Zy hs (Qi (t:=w) rfl rfl rfl (by rw [hw,decide_eq_true_iff];show _=_↔_;omega)<|Wp 1 [0] hs rfl<|Fv rfl (fun h20=>?_) (fun h20=>?_)))))
  ·
   obtain ⟨c,hce⟩:∃ c,c=t.cell.getD b 0:=⟨_,rfl⟩
   have hcc:c<t.cells:=by rw [hce,Bn oM];exact hcells _ (List.getElem_mem _)
   refine Bc [0,1,2,3,4,5,6,7,8,9,10,11,12,13,14,15] hs kR ?_
   replace hs:=hs.drew
   refine Xt 0 hs rfl (Du 0 underlying309 sizeOf125 rfl rfl rfl dC (m:=0) rfl<|Xr [1,2] [0,257] hs rfl<|Xt 3 hs rfl (Db 3 isAgg41 rfl rfl (Jj hcl)<|Xr [4] [] hs rfl<|Xt 5 hs rfl (Bv hN k underlying41 sizeOf33 rfl rfl rfl oM fun p26 c26 hp26 hc26 hR26=>?_)))
   obtain ⟨rr,herr⟩:∃ r,r=t.next[k]'oM:=⟨_,rfl⟩
   rw [← herr] at hR26
   have hlrr:rr.length=t.cells∧∀ x∈rr,x<t.next.length:=hrows rr Z29
   obtain ⟨u26,rfl,hrr⟩:=hR26
   obtain ⟨A26,c26,rfl,_⟩:=id hrr
   refine Xt 6 hs rfl (Yg rfl (hp26 0 (.slice A26 rr.length c26) rfl)<|Xr [7,8] [0] hs rfl<|Xt 9 hs rfl (Bq b underlying298 sizeOf3 rfl rfl rfl oM<|Xt 10 hs rfl (Db 3 isAgg3 rfl rfl (show (Cg t.cell t.cells (.slice An t.next.length cn) (.slice Aa t.acc.length ca))[b]?=some (Cm c) from by rw [hce];exact aC hcl oM)<|Xt 11 hs rfl (Eo hrr c underlying33 sizeOf3 rfl rfl rfl oM fun p32 hp32=>?_))))
   obtain ⟨x,hxe⟩:∃ x,x=rr[c]'oM:=⟨_,rfl⟩
   rw [← hxe] at hp32
   have hxN:x<t.next.length:=hlrr.2 x Z33
   refine Xt 12 hs rfl (Yg rfl (hp32)<|Xt 13 hs rfl (eH x oM rfl rfl<|Xt 14 hs rfl (Tw rfl rfl<|Xt 15 hs rfl (Du 0 underlying309 sizeOf125 rfl rfl rfl dC (m:=0) rfl<|Xn 16 rfl (Sd hs rfl rfl fun _ hs=>Xe (Zk [2,3,4,6,7,11,12] rfl ?_))))))
   refine Zr<|Zy hs (Ya (s:=((k+1:Nat):Int)) rfl<|Wp 1 [] hs rfl ?_)
   have hs:=hs.f3.f3.f3.f3
   have hxx:t.to k (t.cell.getD b 0)=x:=by rw [← hce,iR oM (by rw [← herr];omega)];simp only [← herr];exact hxe.symm
   refine Zx [2,3,4,6,7,11,12] rfl ⟨k+1,_,by omega,rfl,rfl,Bz hs (by rw [aM,if_pos (of_decide_eq_true (hw.symm.trans h20)),hxx])⟩
  refine Wu 2 [] hs rfl<|Zy hs (Ya (s:=((k+1:Nat):Int)) rfl<|Wp 1 [] hs rfl ?_)
  have hs:=hs.f3.f3.f3.f3
  refine Zx [2,3,4,6,7,11,12] rfl ⟨k+1,_,by omega,rfl,rfl,Bz hs (by rw [aM,if_neg (of_decide_eq_false (hw.symm.trans h20))])⟩
 refine Wp 4 [0] hs rfl<|Wu 3 [0] hs rfl<|O_n (Sg hs.f2 rfl (rfl) fun _ hs=>Wp 1 [0] hs rfl<|Ah<|Zz results253 (Rb 0 hs rfl rF) ?_)
 obtain rfl:k=t.next.length:=by omega
 exact ⟨_,[],hs.done,rfl,rfl⟩
theorem TI311:TI prog 311 (.agg #[Vi 0,Vi 0,.int .u64 0]) 3 24:=TI.of kR
def sD (a:Cs):List Value:=[Vi (a.p:Int),Vi (a.q:Int),.int .u64 (a.s:Int)]
def stK (a:Cs):Value:=.agg #[Vi (a.p:Int),Vi (a.q:Int),.int .u64 (a.s:Int)]
def stF (l:List Cs):List Value:=(l.map sD).flatten
theorem wG (l:List Cs) (a:Cs):stF (l++[a])=stF l++sD a:=by unfold stF;simp
theorem lV:∀ {l:List Cs} {i:Nat} (h:i<l.length),((stF l).drop (i*3)).take 3=sD l[i]
  | a::l,0,_=>by show (sD a++stF l).take 3=_;rfl
  | a::l,i+1,h=>by
    show ((sD a++stF l).drop ((i+1)*3)).take 3=_
    rw [List.drop_append,show (i+1)*3-(sD a).length=i*3 by simp [sD];omega,List.drop_eq_nil_of_le (by simp [sD];omega),List.nil_append]
    exact lV bT
theorem wH:Ie prog 311 stK:=Ie.state (p:=Cs.p) (q:=Cs.q) (s:=Cs.s) (fun a b h1 h2 h3=>by cases a;cases b;simp_all) underlying311 kR dC dC dC rfl rfl rfl rfl rfl rfl isAgg3 underlying3 underlying309 sizeOf309 isAgg309 sizeOf125 isAgg125 underlying125
theorem Lm:∀ (ys a xs r:List Value),xs.length=ys.length→Rj (a++xs++r) a.length ys=a++ys++r
  | [],a,[],r,_=>rfl
  | y::ys,a,x::xs,r,h=>by
    rw [Rj]
    have h1:(a++x::xs++r).set a.length y=(a++[y])++xs++r:=by
      rw [List.append_assoc,List.set_append_right _ _ oM,Nat.sub_self];simp
    rw [h1,show a.length+1=(a++[y]).length by simp,Lm ys (a++[y]) xs r bT]
    simp
theorem fill276 {cell:List Nat} {n:Nat} (h:cell.length=256):Hc (([(0,256),(256,1),(257,1),(258,1)]:List (Nat×Nat))[·]?) (Cg (List.replicate 256 0) 0 (Vn) (Vn)) [(0,.agg (cell.map Ji).toArray),(1,Vi (n:Int))]=some (Cg cell n (Vn) (Vn)):=by
  have h2:(cell.map Ji).length=256:=by rw [List.length_map];exact h
  have hp:=Lm (cell.map Ji) [] (List.map Ji (List.replicate 256 0)) [Vi 0,Vn,Vn] (by rw [h2,List.length_map,List.length_replicate])
  have hl:(Cg (List.replicate 256 0) 0 (Vn) (Vn)).length=259:=Bp List.length_replicate
  have ht:Rj (Cg (List.replicate 256 0) 0 (Vn) (Vn)) 0 (cell.map Ji)=cell.map Ji++[Vi 0,Vn,Vn]:=hp
  rw [Hc]
  simp only [List.getElem?_cons_zero,show (Value.agg (cell.map Ji).toArray).cells.toList=cell.map Ji from rfl,h2,hl,ht]
  show Hc _ (cell.map Ji++_) _=_
  rw [Hc]
  simp only [List.getElem?_cons_succ,List.getElem?_cons_zero,show (Value.int .i64 (n:Int)).cells.toList=[Vi (n:Int)] from rfl]
  have hl2:(cell.map Ji++[Value.int .i64 0,Vn,Vn]).length=259:=by rw [List.length_append,h2];rfl
  rw [hl2]
  simp only [show ([Value.int .i64 (n:Int)].length.beq 1 && (256+[Value.int .i64 (n:Int)].length).ble 259)=true from rfl,cond_true]
  rw [Hc,Rj,Rj,List.set_append_right _ _ oM,h2]
  rfl
theorem dL {cell:List Nat} {n:Nat} {vn va v:Value} (h:cell.length=256):(Cg cell n vn va).set 257 v=Cg cell n v va:=by
  unfold Cg;rw [List.set_append_right _ _ kZ,List.length_map,h];rfl
theorem Uk {cell:List Nat} {n:Nat} {vn va v:Value} (h:cell.length=256):(Cg cell n vn va).set 258 v=Cg cell n vn v:=by
  unfold Cg;rw [List.set_append_right _ _ kZ,List.length_map,h];rfl
theorem exP_old {nx:Cs→Nat→Cs} {most:Nat} {s to:Cs} {st:Ex} {b:Nat} (ht:to=nx s b) (h:Da to st.l<st.l.length):rQ nx most s (some st) b=some { st with row:=st.row++[Da to st.l] }:=by
  subst ht;unfold rQ;simp only [if_pos h]
theorem exP_new {nx:Cs→Nat→Cs} {most:Nat} {s to:Cs} {st:Ex} {b:Nat} (ht:to=nx s b) (h:¬ Da to st.l<st.l.length) (hm:¬ st.l.length=most):rQ nx most s (some st) b=some ⟨st.l++[to],st.row++[st.l.length]⟩:=by
  subst ht;unfold rQ;simp only [if_neg h,if_neg hm]
theorem wI {nx:Cs→Nat→Cs} {most:Nat} {s to:Cs} {st:Ex} {b:Nat} (ht:to=nx s b) (h:¬ Da to st.l<st.l.length) (hm:st.l.length=most):rQ nx most s (some st) b=none:=by
  subst ht;unfold rQ;simp only [if_neg h,if_pos hm]
theorem iY {nx:Cs→Nat→Cs} {most:Nat} {s:Cs}:∀ (bs:List Nat),bs.foldl (rQ nx most s) none=none
  | []=>rfl
  | _::bs=>iY bs
theorem ex_here {nx:Cs→Nat→Cs} {most k:Nat} {s:Cs} {bs:List Nat} {o:Option Ex} {z:Ex} {S:Ex} (h:bs.foldl (rQ nx most s) o=some S) (hk:k<bs.length) (hz:(bs.take k).foldl (rQ nx most s) o=some z):rQ nx most s (some z) bs[k]≠none:=by
  intro hn
  rw [← List.take_append_drop (k+1) bs,List.foldl_append,Dc _ _ bs k hk,hz,hn,iY] at h
  cases h
theorem exG_pos {bytes:List Nat} {nx:Cs→Nat→Cs} {ac:Cs→Bool} {most f i:Nat} {l:List Cs} {nt:List (List Nat)} {ct:List Bool} {R:Option (List (List Nat)×List Bool)} (h:rR bytes nx ac most f i l nt ct=some R):0<f:=by
  cases f with
  | zero=>cases h
  | succ f=>omega
theorem exG_end {bytes:List Nat} {nx:Cs→Nat→Cs} {ac:Cs→Bool} {most f i:Nat} {l:List Cs} {nt:List (List Nat)} {ct:List Bool} {R:List (List Nat)×List Bool} (hi:l.length≤i) (h:rR bytes nx ac most f i l nt ct=some (some R)):R=(nt,ct):=by
  cases f with
  | zero=>cases h
  | succ f =>
    rw [rR,List.getElem?_eq_none hi] at h
    injection h with h;injection h with h;exact h.symm
theorem exG_go {bytes:List Nat} {nx:Cs→Nat→Cs} {ac:Cs→Bool} {most f i:Nat} {l:List Cs} {nt:List (List Nat)} {ct:List Bool} {R:List (List Nat)×List Bool} (hi:i<l.length) (h:rR bytes nx ac most (f+1) i l nt ct=some (some R)) :
    ∃ st,bytes.foldl (rQ nx most l[i]) (some ⟨l,[]⟩)=some st∧rR bytes nx ac most f (i+1) st.l (nt++[st.row]) (ct++[ac l[i]])=some (some R):=by
  rw [rR,List.getElem?_eq_getElem hi] at h
  simp only at h
  split at h
  · cases h
  · rename_i st hst
    exact ⟨st,hst,h⟩
structure cE (ok:Cs→Prop) (most i k:Nat) (s:Cs) (st:Ex):Prop where
  nd:st.l.Nodup
  at':st.l[i]?=some s
  rl:st.row.length=k
  ok:∀ a∈st.l,ok a
  le:st.l.length≤most
theorem cE.gt {ok:Cs→Prop} {most i k:Nat} {s:Cs} {st:Ex} (h:cE ok most i k s st):∃ hi:i<st.l.length,st.l[i]=s:=List.getElem?_eq_some_iff.1 h.at'
theorem cE.old {ok:Cs→Prop} {most i k v:Nat} {s:Cs} {st:Ex} (h:cE ok most i k s st):cE ok most i (k+1) s ⟨st.l,st.row++[v]⟩:=⟨h.nd,h.at',by simp [h.rl],h.ok,h.le⟩
theorem cE.new {ok:Cs→Prop} {most i k v:Nat} {s to:Cs} {st:Ex} (h:cE ok most i k s st) (ht:ok to) (hno:¬ Da to st.l<st.l.length) (hm:¬ st.l.length=most):cE ok most i (k+1) s ⟨st.l++[to],st.row++[v]⟩:=by
  refine ⟨Pd h.nd hno,?_,by simp [h.rl],fun a ha=>?_,by have:=h.le;simp;omega⟩
  · obtain ⟨hi,he⟩:=h.gt
    show (st.l++[to])[i]?=some s
    rw [List.getElem?_append_left hi,List.getElem?_eq_getElem hi,he]
  · rcases List.mem_append.1 ha with ha | ha
    · exact h.ok a ha
    · rw [List.mem_singleton.1 ha];exact ht
theorem stC_one {a:Cs}:∀ y∈[Value.int .i64 (a.p:Int),Vi (a.q:Int),.int .u64 (a.s:Int)],y.oneCell'=true:=by
  intro y hy
  simp only [List.mem_cons,List.not_mem_nil,or_false] at hy
  rcases hy with rfl | rfl | rfl<;>rfl
theorem Wi {G:Ghost} {vb:Value} {cell bytes:List Nat} {start:Cs} {nx:Cs→Nat→Cs} {ac:Cs→Bool} {ok:Cs→Prop} {most f1 f2:Nat} {lb1 lb2:List Value} {fn1 fn2:Func} {R:List (List Nat)×List Bool} (hcl:cell.length=256) (hb:Cr G vb bytes) (hbl:bytes.length≤256) (hm1:1≤most) (hmost:most≤5000) (hst:ok start) (hokn:∀ s,∀ c∈bytes,ok s→ok (nx s c))
  (hfn1 : prog.funcs[f1]? = some fn1) (hbd1 : fn1.body.isSome = true) (hnm1 : (fn1.name == "runtime.NumGoroutine") = false) (hfn2 : prog.funcs[f2]? = some fn2) (hbd2 : fn2.body.isSome = true) (hnm2 : (fn2.name == "runtime.NumGoroutine") = false)
  (hg1:∀ (G':Ghost) (s:Cs) (c:Nat),ok s→c∈bytes→G.le G'→Ai prog f1 (.agg #[Vi (s.p:Int),Vi (s.q:Int),.int .u64 (s.s:Int)]::Vi (c:Int)::lb1) G' [] fun r _ H'=>H'=[]∧r=stK (nx s c)) (hg2:∀ (G':Ghost) (s:Cs),ok s→G.le G'→Ai prog f2 (.agg #[Vi (s.p:Int),Vi (s.q:Int),.int .u64 (s.s:Int)]::lb2) G' [] fun r _ H'=>H'=[]∧r=.bool (ac s)) (hR:rR bytes nx ac most (most+1) 0 [start] [] []=some (some R)) :
  Ai prog 254 [(.agg (cell.map Ji).toArray),vb,.agg #[Vi (start.p:Int),Vi (start.q:Int),.int .u64 (start.s:Int)],.func (.func f1) #[] lb1.toArray,.func (.func f2) #[] lb2.toArray,Vi (most:Int)] G [] fun r G' H'=>H'=[]∧∃ vt,r=.tuple #[vt,Vt]∧bO G' vt ⟨cell,bytes.length,R.1,R.2⟩:=by
 obtain ⟨Ab,cb,rfl,_⟩:=id hb
 refine Ai.of_T [(0,_),(1,_),(2,_),(3,_),(4,_),(5,_)] func254 rfl ntmps254 sM rfl fun w0 hs=>?_
 have hb0:=hb
 refine Wt 2 [] hs rfl<|O_s (Dw hs rfl (cs:=_) rfl fun b6 _ hs =>O_s (Sb hs rfl fun b8 _ hs=>O_s (Bd hs zeroValue300 (cs:=(Cg (List.replicate 256 0) 0 (Vn) (Vn))) rfl fun b12 _ hs =>Wp 4 [0] hs rfl<|Zy hs (Yk 2 rfl Z10<|Wp 2 [] hs rfl<|Zy hs (Ba (zs:=(Cg (List.replicate 256 0) 0 (Vn) (Vn))) zeroValue300 kR (pl:=[(0,256),(256,1),(257,1),(258,1)]) kR rfl (cs:=(Cg cell bytes.length (Vn) (Vn))) (fill276 hcl)<|O_s (Bd hs zeroValue300 (cs:=(Cg (List.replicate 256 0) 0 (Vn) (Vn))) rfl fun b14 _ hs =>O_n (Ro hs sizeOf300 rfl rfl (vs:=_) Z10 Z10 (Gi rfl rfl) fun _ hs =>Wp 3 [0] hs rfl<|O_s (Jw hs fun b28 _ hs =>Wp 1 [3] hs rfl<|O_n (S_insK (ks:=([]:List Cs)) (a:=start) (enc:=stK) hs underlying339 wH List.nodup_nil (by simp [Da]) rfl rfl rfl fun _ hs =>Wp 6 [0,3] hs rfl<|O_s (Ca hs underlying340 sizeOf311 zeroValue311 rfl rfl dC dC rfl (cs:=[_,_,_]) rfl rfl fun v1 _ hs _ =>Wp 7 [0,0] hs rfl ?_))))))))))
 have hs:=hs.nilRow 4 1
 have hs:=hs.nilRow 33 1
 have hs:=hs.f5.f6.f7.f4.f4.f7.f6.f7
 refine Zl [1,3,4,5,12,14,15,16,17] (fun m E w=>∃ (f i:Nat) (l:List Cs) (nt:List (List Nat)) (ct:List Bool) (vs:List Value) (vl vn va:Value) (G2:Ghost),rR bytes nx ac most f i l nt ct=some (some R)∧l.Nodup∧(∀ a∈l,ok a)∧l.length≤most∧nt.length=i∧ct.length=i∧vs.length=i∧i≤l.length∧En G2 vs nt∧m=f∧E=⟨[],[(1,(.slice Ab bytes.length cb)),(3,.func (.func f1) #[] lb1.toArray),(4,.func (.func f2) #[] lb2.toArray),(5,Vi (most:Int)),(12,Vp b12),(14,Vp b14),(15,.map (some b28)),(16,vl),(17,Vi (i:Int))]⟩∧St ⟨w0,G,Bl []⟩ G2 [.obj b28 (.map (Ff stK l).toArray l.length),.row 311 3 (vl) l.length (stF l),.blk b14 300 (Cg cell bytes.length vn va),.row 33 1 (vn) nt.length vs,.row 4 1 (va) ct.length (ct.map Bb),.blk b6 298 (List.map Ji cell),.blk b8 311 (sD start),.blk b12 300 (Cg (List.replicate 256 0) 0 (Vn) (Vn))] w) rfl (⟨most+1,0,[start],[],[],[],_,_,_,_,hR,by simp,by intro a ha;rw [List.mem_singleton.1 ha];exact hst,hm1,rfl,rfl,rfl,by simp,trivial,rfl,rfl,hs⟩) fun m E w hI=>?_
 obtain ⟨f,i,l,nt,ct,vs,vl,vn,va,G2,hg,hlnd,hlok,hlm,hnl,hacl,hvl,hil1,hrs,rfl,rfl,hs⟩:=hI
 have hb:=hb0.mono hs.le
 refine Wt 5 [] hs rfl<|Zy hs (Dq 1 rfl underlying340 rfl hs<|Zy hs (Yc rfl (fun h36=>?_) fun h36=>?_))
 ·
  refine Wp 3 [0] hs rfl ?_
  have hfp:=exG_pos hg
  obtain ⟨fu1,rfl⟩:∃ g,m=g+1:=⟨m-1,by omega⟩
  have hil0:i<l.length:=by omega
  obtain ⟨S,hfull,hrest⟩:=exG_go hil0 hg
  obtain ⟨s,hse⟩:∃ z,z=l[i]:=⟨_,rfl⟩
  rw [← hse] at hfull hrest
  have hex0:cE ok most i 0 s ⟨l,[]⟩:=⟨hlnd,by show l[i]?=_;rw [List.getElem?_eq_getElem hil0,hse],rfl,hlok,hlm⟩
  refine Wu 6 [] hs rfl<|O_s (Fx (n:=bytes.length) (m:=bytes.length) hs underlying33 Lb rfl rfl rfl oM oM oM fun b41 _ hs =>Wp 9 [0,0] hs rfl ?_)
  have hs:=hs.front 8 rfl (H':=[_,_,_,_,_,_,_,_,_]) rfl
  have hs:=hs.front 8 rfl (H':=[_,_,_,_,_,_,_,_,_]) rfl
  have hs:=hs.front 8 rfl (H':=[_,_,_,_,_,_,_,_,_]) rfl
  have hs:=hs.front 8 rfl (H':=[_,_,_,_,_,_,_,_,_]) rfl
  have hs:=hs.front 8 rfl (H':=[_,_,_,_,_,_,_,_,_]) rfl
  have hs:=hs.front 8 rfl (H':=[_,_,_,_,_,_,_,_,_]) rfl
  have hs:=hs.front 8 rfl (H':=[_,_,_,_,_,_,_,_,_]) rfl
  have hs:=hs.front 8 rfl (H':=[_,_,_,_,_,_,_,_,_]) rfl
  have hs:=hs.front 8 rfl (H':=[_,_,_,_,_,_,_,_,_]) rfl
  rw [Sh] at hs
  refine Zl [1,3,4,5,12,14,15,16,17,18,42,43,44] (fun m E w=>∃ (k:Nat) (st:Ex) (vl:Value) (G2:Ghost),k≤bytes.length∧(bytes.take k).foldl (rQ nx most s) (some ⟨l,[]⟩)=some st∧cE ok most i k s st∧En G2 vs nt∧m=bytes.length-k∧E=⟨[],[(1,(.slice Ab bytes.length cb)),(3,.func (.func f1) #[] lb1.toArray),(4,.func (.func f2) #[] lb2.toArray),(5,Vi (most:Int)),(12,Vp b12),(14,Vp b14),(15,.map (some b28)),(16,vl),(17,Vi (i:Int)),(18,Vs b41 bytes.length bytes.length),(42,(.slice Ab bytes.length cb)),(43,Vi ((bytes.length:Nat):Int)),(44,Vi (k:Int))]⟩∧St ⟨w0,G,Bl []⟩ G2 [.row 3 1 (Vs b41 bytes.length bytes.length) bytes.length ((st.row++List.replicate (bytes.length-k) 0).map Cm),.obj b28 (.map (Ff stK st.l).toArray st.l.length),.row 311 3 (vl) st.l.length (stF st.l),.blk b14 300 (Cg cell bytes.length vn va),.row 33 1 (vn) nt.length vs,.row 4 1 (va) ct.length (ct.map Bb),.blk b6 298 (List.map Ji cell),.blk b8 311 (sD start),.blk b12 300 (Cg (List.replicate 256 0) 0 (Vn) (Vn))] w) rfl (⟨0,⟨l,[]⟩,_,_,by omega,rfl,hex0,hrs,rfl,rfl,hs⟩) fun m E w hI=>?_
  obtain ⟨k,st,vl,G2,hk,hst2,hex,hrs,rfl,rfl,hs⟩:=hI
  have hb:=hb0.mono hs.le
  refine Wt 2 [] hs rfl<|Zy hs (Yc rfl (fun h45=>?_) fun h45=>?_)
  ·
   refine Wp 9 [0] hs rfl<|Zy hs (Eo hb k underlying33 sizeOf3 rfl rfl rfl oM fun p47 hp47=>?_)
   obtain ⟨c,hce⟩:∃ z,z=bytes[k]'oM:=⟨_,rfl⟩
   rw [← hce] at hp47
   have hcb:c∈bytes:=by rw [hce];exact List.getElem_mem _
   refine Zy hs (Yg rfl (hp47)<|Wp 3 [0] hs rfl ?_)
   obtain ⟨hil,hsi⟩:=hex.gt
   obtain ⟨bl,capl,hzbl,_⟩:=hs.rowForm 2 rfl oM
   subst hzbl
   obtain ⟨to,hto⟩:∃ z,z=nx s c:=⟨_,rfl⟩
   have hos:ok s:=by rw [← hsi];exact hex.ok _ (List.getElem_mem _)
   have hot:ok to:=by rw [hto];exact hokn s c hcb hos
   have hnd:=hex.nd
   have hlmx:=hex.le
   refine Wu 5 [] hs rfl<|Zy hs (Cy i underlying340 sizeOf311 rfl rfl rfl hil<|Zy hs (He (vs:=sD s) 2 rfl isAgg311 sizeOf311 rfl hil (by rw [lV hil,hsi]) rfl<|Wp 1 [] hs rfl<|O_s (Cb (args:=[_,_]) (lb:=lb1) (H1:=[]) hs rfl rfl hfn1 hbd1 hnm1 (hg1 _ s c hos hcb hs.le) fun v2 G' H' _ hR hG55 hs=>?_)))
   obtain ⟨rfl,hr55⟩:=hR
   replace hs:=hs.n rfl
   replace hrs:=hrs.mono hG55
   rw [← hto] at hr55
   subst hr55
   refine O_s (Sa hs zeroValue311 rfl fun b21 _ hs=>O_n (Es hs sizeOf311 rfl rfl (vs:=[_,_,_]) rfl (rfl) sM (cs':=[_,_,_]) rfl fun _ hs =>Wp 5 [15,1,3,4,5,12,14,15,16,17,18,19,21,42,43,44,0] hs rfl<|Zy hs (Jy (a:=to) 2 rfl underlying339 wH zeroValue3 hnd rfl rfl (fun hno=>?_) (fun hyes=>?_))))
   ·
    refine Wp 19 [0,17,1,3,4,5,12,14,15,16,17,18,19,21,22,42,43,44,63,0] hs rfl ?_
    have hmm:¬ st.l.length=most:=fun e=>ex_here hfull (show k<bytes.length by omega) hst2 (by rw [← hce];exact wI hto hno e)
    refine Wu 5 [] hs rfl<|Zy hs (Di rfl rfl rfl oM<|Wp 8 [0,0] hs rfl<|O_n (Yd (a:=to) hs.f2 underlying339 wH hnd hno rfl rfl rfl fun _ hs =>Wp 4 [16,1,3,4,5,12,14,15,16,17,18,19,21,22,42,43,44,1] hs rfl<|O_s (Ca hs underlying340 sizeOf311 zeroValue311 rfl rfl dC dC rfl (cs:=[_,_,_]) rfl rfl fun v3 _ hs _=>?_)))
    obtain ⟨_,hG75,hl75,hs⟩:=hs.fixRow noM
    replace hrs:=hrs.mono hG75
    refine O_s (Bf hs.f3 underlying340 TI311 rfl dC rfl rfl (hl75) (stC_one) oM oM fun v4 _ hs =>Wp 6 [0] hs rfl<|Zy hs (Bj (k) underlying33 sizeOf3 rfl rfl rfl oM<|O_n (Ct hs.f3 sizeOf3 rfl rfl rfl oM fun _ hs =>Wp 2 [13,1,3,4,5,12,14,15,16,17,18,42,43,44] hs rfl<|Zy hs (Ya (s:=((k+1:Nat):Int)) rfl<|Wp 1 [] hs rfl ?_))))
    have hs:=hs.front 9 rfl (H':=[_,_,_,_,_,_,_,_,_,_]) rfl
    have hs:=hs.front 9 rfl (H':=[_,_,_,_,_,_,_,_,_,_]) rfl
    have hs:=hs.front 9 rfl (H':=[_,_,_,_,_,_,_,_,_,_]) rfl
    have hs:=hs.front 9 rfl (H':=[_,_,_,_,_,_,_,_,_,_]) rfl
    have hs:=hs.front 9 rfl (H':=[_,_,_,_,_,_,_,_,_,_]) rfl
    have hs:=hs.front 9 rfl (H':=[_,_,_,_,_,_,_,_,_,_]) rfl
    have hs:=hs.f7
    have hs:=hs.front 8 rfl (H':=[_,_,_,_,_,_,_,_,_,_]) rfl
    have hs:=hs.front 8 rfl (H':=[_,_,_,_,_,_,_,_,_,_]) rfl
    have hstp:=exP_new (st:=st) (b:=c) (most:=most) hto hno hmm
    refine Zx [1,3,4,5,12,14,15,16,17,18,42,43,44] rfl ⟨k+1,⟨st.l++[to],st.row++[st.l.length]⟩,v4,_,by omega,by rw [Dc _ _ bytes k oM,hst2,← hce,hstp],hex.new hot hno hmm,hrs,rfl,rfl,Bz (hs.weak hs.le (gLr _) (lSa [_,_,_,_,_,_,_,_,_] _)) (by rw [← Kk hex.rl oM];simp [Cm,List.map_set,wG,sD])⟩
   refine Wp 18 [0,17,1,3,4,5,12,14,15,16,17,18,19,21,22,42,43,44,63] hs rfl<|Zy hs (Bj (k) underlying33 sizeOf3 rfl rfl rfl oM<|O_n (Ct hs.f1 sizeOf3 rfl rfl rfl oM fun _ hs =>Wp 2 [0] hs rfl<|Zy hs (Ya (s:=((k+1:Nat):Int)) rfl<|Wp 1 [] hs rfl ?_)))
   have hs:=hs.front 9 rfl (H':=[_,_,_,_,_,_,_,_,_,_]) rfl
   have hs:=hs.front 9 rfl (H':=[_,_,_,_,_,_,_,_,_,_]) rfl
   have hs:=hs.front 9 rfl (H':=[_,_,_,_,_,_,_,_,_,_]) rfl
   have hs:=hs.front 9 rfl (H':=[_,_,_,_,_,_,_,_,_,_]) rfl
   have hs:=hs.front 9 rfl (H':=[_,_,_,_,_,_,_,_,_,_]) rfl
   have hs:=hs.front 9 rfl (H':=[_,_,_,_,_,_,_,_,_,_]) rfl
   have hs:=hs.front 9 rfl (H':=[_,_,_,_,_,_,_,_,_,_]) rfl
   have hs:=hs.front 9 rfl (H':=[_,_,_,_,_,_,_,_,_,_]) rfl
   have hs:=hs.front 8 rfl (H':=[_,_,_,_,_,_,_,_,_,_]) rfl
   have hstp:=exP_old (st:=st) (b:=c) (most:=most) hto hyes
   refine Zx [1,3,4,5,12,14,15,16,17,18,42,43,44] rfl ⟨k+1,⟨st.l,st.row++[Da to st.l]⟩,Vs bl st.l.length capl,_,by omega,by rw [Dc _ _ bytes k oM,hst2,← hce,hstp],hex.old,hrs,rfl,rfl,Bz (hs.weak hs.le (gLr _) (lSa [_,_,_,_,_,_,_,_,_] _)) (by rw [← Kk hex.rl oM];simp [Cm,List.map_set])⟩
  refine Wp 4 [0] hs rfl ?_
  obtain rfl:k=bytes.length:=by omega
  rw [Nat.sub_self,List.replicate_zero,List.append_nil] at hs
  rw [List.take_length] at hst2
  obtain ⟨_,hG_hrow,hrow,hs⟩:=hs.fixRow noM
  replace hrs:=hrs.mono hG_hrow
  have hrl:=hex.rl
  replace hrow:Cr _ (Vs b41 bytes.length bytes.length) st.row:=(show Cr _ _ _ from by unfold Cr;rw [hrl];exact hrow)
  obtain rfl:=Option.some.inj (hst2.symm.trans hfull)
  obtain ⟨hil,hsi⟩:=hex.gt
  obtain ⟨bl2,capl2,hzbl2,_⟩:=hs.rowForm 1 rfl oM
  subst hzbl2
  have hos:ok s:=by rw [← hsi];exact hex.ok _ (List.getElem_mem _)
  have hlmx:=hex.le
  refine Wu 3 [257] hs rfl<|Zy hs (Db 2 isAgg41 rfl rfl (Jj hcl)<|Wp 1 [] hs rfl<|O_s (Ca hs underlying41 sizeOf33 zeroValue33 rfl rfl dC dC rfl (cs:=[_]) rfl rfl fun v5 _ hs _=>?_))
  obtain ⟨_,hG85,hl85,hs⟩:=hs.fixRow noM
  replace hrs:=hrs.mono hG85
  replace hrow:=hrow.mono hG85
  refine O_s (Bf hs.f3 underlying41 eS rfl dC rfl rfl (hl85) (Fj rfl) oM oM fun v6 _ hs =>Wp 1 [257] hs rfl<|O_n (Hs hs.f3 sizeOf41 rfl rfl (hs.f3.rowOne 1 rfl) (by rw [Bp hcl];omega) (cs':=(Cg cell bytes.length v6 va)) (dL hcl) fun _ hs =>Wp 1 [0] hs rfl<|Bc [0,1,2,3,4,5,6,7,8] hs kR ?_))
  replace hs:=hs.drew
  refine Xr [0] [258] hs rfl<|Xt 1 hs rfl (Db 0 isAgg64 rfl rfl (Uh hcl)<|Xr [2,3,4] [] hs rfl<|Xt 5 hs rfl (Cy i underlying340 sizeOf311 rfl rfl rfl hil<|Xt 6 hs rfl (He (vs:=sD s) 3 rfl isAgg311 sizeOf311 rfl hil (by rw [lV hil,hsi]) rfl ?_)))
  have hle:=hs.le
  refine Xo 7 rfl (Cb (args:=[_]) (lb:=lb2) (H1:=[]) hs rfl rfl hfn2 hbd2 hnm2 (hg2 _ s hos hs.le) fun v7 G' H' _ hR hG95 hs=>?_)
  obtain ⟨rfl,rfl⟩:=hR
  replace hs:=hs.n rfl
  replace hrs:=hrs.mono hG95
  replace hrow:=hrow.mono hG95
  refine Am hs hle hG95 (lSr _) ?_
  have hle:=hs.le
  refine Xo 8 rfl (Ca hs underlying64 sizeOf4 zeroValue4 rfl rfl dC dC rfl (cs:=[_]) rfl rfl fun v8 _ hs _=>?_)
  obtain ⟨_,hG96,hl96,hs⟩:=hs.fixRow noM
  replace hrs:=hrs.mono hG96
  replace hrow:=hrow.mono hG96
  refine Am hs hle hG96 (lSr _)<|Xa 9 rfl (Bf hs.f4 underlying64 oN rfl dC rfl rfl (hl96) (Fj rfl) oM oM fun v9 _ hs =>Xa 10 rfl (S_y hs rfl (Yf 258 rfl<|Xn 11 rfl (Hs hs.f1 sizeOf64 rfl rfl (hs.f1.rowOne 1 rfl) (by rw [Bp hcl];omega) (cs':=(Cg cell bytes.length v6 v9)) (Uk hcl) fun _ hs =>Xe (Zk [1,3,4,5,12,14,15,16,17] rfl<|Wu 2 [] hs rfl<|Zy hs (Ya (s:=((i+1:Nat):Int)) rfl<|Wp 1 [] hs rfl ?_))))))
  have hs:=hs.f7.f7.f7.f4.f5.f5.f7.f7
  refine Zx [1,3,4,5,12,14,15,16,17] rfl ⟨fu1,i+1,st.l,_,_,_,Vs bl2 st.l.length capl2,v6,v9,_,hrest,hex.nd,hex.ok,hex.le,by simp [hnl],by simp [hacl],by simp [hvl],by omega,En.snoc hrs hrow,rfl,rfl,Bz (hs.weak hs.le (gLr _) (lSa [_,_,_,_,_,_,_,_] _)) (by simp [Bb])⟩
 refine Wp 3 [0] hs rfl ?_
 have hfe:=exG_end oM hg
 subst hfe
 have hs:=hs.f3
 obtain ⟨_,hG_hfn,hfn,hs⟩:=hs.fixRow noM
 replace hrs:=hrs.mono hG_hfn
 have hs:=hs.f3
 obtain ⟨_,hG_hfa,hfa,hs⟩:=hs.fixRow noM
 replace hrs:=hrs.mono hG_hfa
 replace hfn:=hfn.mono hG_hfa
 obtain ⟨Fn,fn,rfl,_⟩:=id hfn
 obtain ⟨Fa,fa,rfl,_⟩:=id hfa
 refine Wu 2 [] hs rfl<|Zy hs (Yk 2 rfl (Bp hcl)<|O_n (Ro hs.f5 sizeOf300 rfl rfl (vs:=_) Z10 Z10 (Gi rfl rfl) fun _ hs =>Wp 2 [0] hs rfl<|Ah ?_))
 have hr:=hs
 refine Bi (vs:=[_,_]) results254 rfl ⟨Bk 0 hr isAgg300 sizeOf300 rfl (cs:=_) rfl Z10,rfl,trivial⟩ ?_
 try dsimp only [tup]
 exact ⟨_,[],hs.done,rfl,_,rfl,_,_,rfl,hcl,En.fin hfn rfl hrs,hfa⟩
theorem iZ:places prog 311=some [(0,1),(1,1),(2,1)]:=by kernel_rfl
def Br (G:Ghost) (b:Nat) (cs:List Value):Prop:=∀ (i:Nat) (v:Value),cs[i]?=some v→Ft G ⟨b,i,none⟩=some v
theorem Br.mono {G G':Ghost} (h:G.le G') {b:Nat} {cs:List Value} (hc:Br G b cs):Br G' b cs:=fun i v hv=>Kb h (hc i v hv)
theorem Br.whole {G:Ghost} {b:Nat} {cs:List Value} (hc:Br G b cs):∀ (j:Nat) (u:Value),cs[j]?=some u→Ft G ((⟨b,0,none⟩:Addr).add j)=some u:=fun j u hj=>by
  have h:=hc j u hj
  have h2:(⟨b,0,none⟩:Addr).add j=⟨b,j,none⟩:=by
    unfold Addr.add;split
    · next h=>rw [h]
    · simp
  rw [h2];exact h
def eV (G:Ghost) (b:Nat) (t:Tb):Prop:=∃ vn va,Br G b (Cg t.cell t.cells vn va)∧t.cell.length=256∧LN G vn t.next∧Hq G va t.acc
theorem eV.mono {G G':Ghost} (h:G.le G') {b:Nat} {t:Tb} (ht:eV G b t):eV G' b t:=by
  obtain ⟨vn,va,h1,h2,h3,h4⟩:=ht
  exact ⟨vn,va,h1.mono h,h2,h3.mono h,h4.mono h⟩
def dM (x:Tb) (a:Cs) (c:Nat):Cs:=⟨0,0,if Oe x (Zp x a.s c)=true then Xv (Zp x a.s c) 1 else Zp x a.s c⟩
def dN (x:Tb) (a:Cs):Bool:=decide (a.p=1) || Oe x a.s
theorem wJ {a b:List Nat} (ha:a.length=4) (hb:b.length=4):(Gz a b).length=4∧∀ w∈Gz a b,w<W64:=by
  refine ⟨Mf ha hb,fun w hw=>?_⟩
  unfold Gz at hw
  obtain ⟨i,hi,rfl⟩:=List.mem_iff_getElem.1 hw
  rw [List.getElem_zipWith];exact Nv _ _
theorem not_wf {a:List Nat} (ha:a.length=4):(Je a).length=4∧∀ w∈Je a,w<W64:=by
  refine ⟨Zd ha,fun w hw=>?_⟩
  unfold Je at hw
  obtain ⟨i,hi,rfl⟩:=List.mem_iff_getElem.1 hw
  rw [List.getElem_zipWith];exact Xw _ _
def Qd (d:My) (r:List Nat):Bool:=decide (r.length=d.cls.length) && r.all fun x=>decide (x<d.next.length)
theorem Ip (d:My):Hm d=true↔1≤d.next.length∧d.next.length≤64∧d.acc.length=d.next.length∧1≤d.cls.length∧d.cls.length≤256∧Mz d.cls [0,0,0,0]=true∧d.next.all (Qd d)=true:=by
  unfold Hm Qd
  simp only [Bool.and_eq_true,decide_eq_true_eq]
theorem Gj {d:My} (h:¬ (1≤d.next.length∧d.next.length≤64∧d.acc.length=d.next.length∧1≤d.cls.length∧d.cls.length≤256∧Mz d.cls [0,0,0,0]=true∧d.next.all (Qd d)=true)):Hm d=false:=by
  rw [Bool.eq_false_iff];intro hv;exact h ((Ip d).1 hv)
theorem Qs {l:List (List Nat)} {k:Nat} {seen:List Nat} (h:k<l.length):Mz (l.drop k) seen=(!(decide (l[k]=[0,0,0,0])) && (decide (Gz seen l[k]=[0,0,0,0]) && Mz (l.drop (k+1)) (Fz seen l[k]))):=by
  rw [List.drop_eq_getElem_cons h,Mz]
theorem dO {l:List (List Nat)} {seen:List Nat}:Mz (l.drop l.length) seen=decide (Je seen=[0,0,0,0]):=by rw [List.drop_length,Mz]
theorem lW {α:Type} {p:α→Bool} {l:List α} {k:Nat} (h:k<l.length) (hp:p l[k]=false):l.all p=false:=by
  rw [Bool.eq_false_iff];intro ha
  have:=List.all_eq_true.1 ha _ (List.getElem_mem h)
  rw [hp] at this;cases this
theorem jA {α:Type} {p:α→Bool} {l:List α} {k:Nat} (h:k<l.length) (ha:(l.take k).all p=true) (hp:p l[k]=true):(l.take (k+1)).all p=true:=by
  rw [List.take_add_one,List.getElem?_eq_getElem h,List.all_append,ha];simp [hp]
theorem aval_ok {G:Ghost} {v:Value} {d:My} (hd:Oh G v d) :
  Ai prog 248 [v] G [] fun r _ H'=>H'=[]∧r=.bool (Hm d):=by
 obtain ⟨vc,vn,va,rfl,hC,hN,hA⟩:=hd
 obtain ⟨Ac,cc,rfl⟩:=Be.slice hC
 obtain ⟨An,cn,rfl⟩:=Be.slice hN
 obtain ⟨Aa,ca,rfl,_⟩:=id hA
 refine Ai.of_T [(0,_)] func248 rfl ntmps248 sM rfl fun w0 hs=>?_
 have hC0:=hC
 have hN0:=hN
 refine Wt 2 [] hs rfl<|O_s (Sb hs rfl fun b1 _ hs=>Wp 13 [0,1,0,0] hs rfl<|Zy hs (Yc rfl (fun h15=>?_) fun h15=>?_))
 ·
  refine Wp 29 [3,1,3,38,0] hs rfl<|Ah<|Zz results248 rfl ?_
  exact ⟨_,[],hs.done,rfl,congrArg Value.bool (Gj oM).symm⟩
 refine Wp 2 [] hs rfl<|Zg hs rfl (Yc rfl (fun h18=>?_) fun h18=>?_)
 ·
  refine Wp 26 [3,1,3,38,0] hs rfl<|Ah<|Zz results248 rfl ?_
  exact ⟨_,[],hs.done,rfl,congrArg Value.bool (Gj oM).symm⟩
 refine Wp 6 [2,0] hs rfl<|Zg hs rfl (Yc rfl (fun h25=>?_) fun h25=>?_)
 ·
  refine Wp 19 [3,1,3,38,0] hs rfl<|Ah<|Zz results248 rfl ?_
  exact ⟨_,[],hs.done,rfl,congrArg Value.bool (Gj oM).symm⟩
 refine Wp 5 [0,0] hs rfl<|Zg hs rfl (Yc rfl (fun h31=>?_) fun h31=>?_)
 ·
  refine Wp 13 [3,1,3,38,0] hs rfl<|Ah<|Zz results248 rfl ?_
  exact ⟨_,[],hs.done,rfl,congrArg Value.bool (Gj oM).symm⟩
 refine Wp 5 [0,0] hs rfl<|Zg hs rfl (Yc rfl (fun h37=>?_) fun h37=>?_)
 ·
  refine Wp 7 [3,1,3,38,0] hs rfl<|Ah<|Zz results248 rfl ?_
  exact ⟨_,[],hs.done,rfl,congrArg Value.bool (Gj oM).symm⟩
 refine Wp 6 [3,1,3,38] hs rfl<|O_s (Bd hs zeroValue127 (cs:=(List.map Af [0,0,0,0])) rfl fun b4 _ hs =>Wp 9 [0,0,1,0] hs rfl ?_)
 have hs:=hs.f1.f1
 refine Zl [1,3,4,40,41,42] (fun m E w=>∃ (k:Nat) (seen:List Nat) (G2:Ghost),k≤d.cls.length∧Mz d.cls [0,0,0,0]=Mz (d.cls.drop k) seen∧seen.length=4∧(∀ w∈seen,w<W64)∧m=d.cls.length-k∧E=⟨[],[(1,Vp b1),(3,Vi ((d.next.length:Nat):Int)),(4,Vp b4),(40,.slice Ac d.cls.length cc),(41,Vi ((d.cls.length:Nat):Int)),(42,Vi (k:Int))]⟩∧St ⟨w0,G,Bl []⟩ G2 [.blk b4 127 (List.map Af seen),.blk b1 250 [.slice Ac d.cls.length cc,.slice An d.next.length cn,.slice Aa d.acc.length ca]] w) rfl (⟨0,[0,0,0,0],_,by omega,rfl,rfl,by decide,rfl,rfl,hs⟩) fun m E w hI=>?_
 obtain ⟨k,seen,G2,hk,hcs,hs4,hs64,rfl,rfl,hs⟩:=hI
 have hC:=hC0.mono hs.le
 have hN:=hN0.mono hs.le
 refine Wt 2 [] hs rfl<|Zy hs (Yc rfl (fun h43=>?_) fun h43=>?_)
 ·
  refine Wp 8 [0] hs rfl<|Zy hs (Bv hC k underlying248 sizeOf127 rfl rfl rfl oM fun p44 c44 hp44 hc44 hR44=>?_)
  obtain ⟨c,hce⟩:∃ c,c=d.cls[k]'oM:=⟨_,rfl⟩
  rw [← hce] at hR44
  obtain ⟨rfl,hc4,hc64⟩:=hR44
  refine Zy hs (Cu (vs:=List.map Af c) isAgg127 sizeOf127 rfl hp44 hc44<|O_s (Bd hs zeroValue127 (cs:=(List.map Af [0,0,0,0])) rfl fun b6 _ hs =>O_n (Sw hs rfl (vs:=(List.map Af c)) Z17 Z17 (Df _) fun _ hs=>Wp 4 [0] hs rfl<|Zy hs (Yk 0 rfl Z17<|Zy hs (Co underlying127 sizeOf125 zeroValue127 rfl rfl (cs:=[_,_,_,_]) rfl<|Zy hs (oA (a:=c) (b:=[0,0,0,0]) underlying127 sizeOf125 isAgg125 underlying125 rfl rfl rfl (hc4) rfl (hc64) dC (fun h48=>?_) (fun h48=>?_)))))))
  ·
   refine Wp 13 [0,0] hs rfl<|Ah<|Zz results248 rfl ?_
   exact ⟨_,[],hs.done,rfl,congrArg Value.bool (Gj (by rw [hcs,Qs oM,← hce];simp_all)).symm⟩
  refine Wp 1 [] hs rfl<|Zg hs rfl (Yk 1 rfl Z17<|Zg hs rfl (Yk 0 rfl Z17<|Ch 49 rfl rfl (Sc (iN hs4 hc4) hs rfl fun v1 G' H' _ hR hG52 hs=>?_)))
  obtain ⟨rfl,rfl⟩:=hR
  replace hs:=hs.n rfl
  refine Zg hs rfl (Co underlying127 sizeOf125 zeroValue127 rfl rfl (cs:=[_,_,_,_]) rfl<|Zg hs rfl (Rp (a:=(Gz seen c)) (b:=[0,0,0,0]) underlying127 sizeOf125 isAgg125 underlying125 rfl rfl rfl (Mf hs4 hc4) rfl ((wJ hs4 hc4).2) dC (fun h54=>?_) (fun h54=>?_)))
  ·
   refine Wp 7 [0,0] hs rfl<|Ah<|Zz results248 rfl ?_
   exact ⟨_,[],hs.done,rfl,congrArg Value.bool (Gj (by rw [hcs,Qs oM,← hce];simp_all)).symm⟩
  refine Wp 5 [0] hs rfl<|Zy hs (Yk 1 rfl Z17<|Zy hs (Yk 0 rfl Z17<|O_s (Sc (Sf hs4 hc4) hs rfl fun v2 G' H' _ hR hG58 hs=>?_)))
  obtain ⟨rfl,rfl⟩:=hR
  replace hs:=hs.n rfl
  refine O_n (Sw hs.f1 rfl (vs:=(List.map Af (Fz seen c))) Z17 Z17 (Df _) fun _ hs=>Wp 2 [0] hs rfl<|Zy hs (Ya (s:=((k+1:Nat):Int)) rfl<|Wp 1 [] hs rfl ?_))
  have hs:=hs.f2.f1
  refine Zx [1,3,4,40,41,42] rfl ⟨k+1,Fz seen c,_,by omega,by rw [hcs,Qs oM,← hce];simp_all,Mh hs4 hc4,(aG hs4 hc4).2,rfl,rfl,hs.weak hs.le (gLr _) (lSa [_,_] _)⟩
 refine Wp 4 [0] hs rfl<|Wu 3 [] hs rfl<|Zy hs (Yk 0 rfl Z17<|O_s (Sc (vU hs4) hs rfl fun v3 G' H' _ hR hG61 hs=>?_))
 obtain ⟨rfl,rfl⟩:=hR
 replace hs:=hs.n rfl
 replace hC:=hC.mono hG61
 replace hN:=hN.mono hG61
 refine Zy hs (Co underlying127 sizeOf125 zeroValue127 rfl rfl (cs:=[_,_,_,_]) rfl<|Zy hs (Rp (a:=(Je seen)) (b:=[0,0,0,0]) underlying127 sizeOf125 isAgg125 underlying125 rfl rfl rfl (Zd hs4) rfl ((not_wf hs4).2) dC (fun h63=>?_) (fun h63=>?_)))
 ·
  refine Wp 6 [0,0] hs rfl<|Ah<|Zz results248 rfl ?_
  exact ⟨_,[],hs.done,rfl,congrArg Value.bool (Gj (by rw [hcs,show k=d.cls.length by omega,dO];simp_all)).symm⟩
 refine Wp 11 [0,1,1,0] hs rfl ?_
 have hs:=hs.f1
 have hcok:Mz d.cls [0,0,0,0]=true:=by rw [hcs,show k=d.cls.length by omega,dO];simp_all
 refine Zl [1,3,65,66,67] (fun m E w=>∃ (k:Nat) (G2:Ghost),k≤d.next.length∧(d.next.take k).all (Qd d)=true∧m=d.next.length-k∧E=⟨[],[(1,Vp b1),(3,Vi ((d.next.length:Nat):Int)),(65,.slice An d.next.length cn),(66,Vi ((d.next.length:Nat):Int)),(67,Vi (k:Int))]⟩∧St ⟨w0,G,Bl []⟩ G2 [.blk b1 250 [.slice Ac d.cls.length cc,.slice An d.next.length cn,.slice Aa d.acc.length ca]] w) rfl (⟨0,_,by omega,by simp,rfl,rfl,hs.weak hs.le (gLr _) (lSa [_] _)⟩) fun m E w hI=>?_
 obtain ⟨k,G2,hk,hra,rfl,rfl,hs⟩:=hI
 have hC:=hC0.mono hs.le
 have hN:=hN0.mono hs.le
 refine Wt 2 [] hs rfl<|Zy hs (Yc rfl (fun h68=>?_) fun h68=>?_)
 ·
  refine Wp 8 [0] hs rfl<|Zy hs (Bv hN k underlying41 sizeOf33 rfl rfl rfl oM fun p69 c69 hp69 hc69 hR69=>?_)
  obtain ⟨rr,herr⟩:∃ r,r=d.next[k]'oM:=⟨_,rfl⟩
  rw [← herr] at hR69
  obtain ⟨u69,rfl,hrr⟩:=hR69
  obtain ⟨A69,c69,rfl,_⟩:=id hrr
  refine Zy hs (Yg rfl (hp69 0 (.slice A69 rr.length c69) rfl)<|Wp 10 [0,0,0] hs rfl<|Zy hs (Yc rfl (fun h76=>?_) fun h76=>?_))
  ·
   refine Wp 6 [0,0] hs rfl<|Ah<|Zz results248 rfl ?_
   exact ⟨_,[],hs.done,rfl,congrArg Value.bool (Gj (by rw [lW (k:=k) oM (show Qd d _=false from by rw [← herr];unfold Qd;rw [decide_eq_false oM];rfl)];simp)).symm⟩
  refine Wp 9 [0,0] hs rfl<|Zl [1,3,65,66,67,77,78,79] (fun m E w=>∃ (j:Nat) (G2:Ghost),j≤rr.length∧(rr.take j).all (fun x=>decide (x<d.next.length))=true∧Cr G2 (.slice A69 rr.length c69) rr∧m=rr.length-j∧E=⟨[],[(1,Vp b1),(3,Vi ((d.next.length:Nat):Int)),(65,.slice An d.next.length cn),(66,Vi ((d.next.length:Nat):Int)),(67,Vi (k:Int)),(77,.slice A69 rr.length c69),(78,Vi ((rr.length:Nat):Int)),(79,Vi (j:Int))]⟩∧St ⟨w0,G,Bl []⟩ G2 [.blk b1 250 [.slice Ac d.cls.length cc,.slice An d.next.length cn,.slice Aa d.acc.length ca]] w) rfl (⟨0,_,by omega,by simp,hrr,rfl,rfl,hs⟩) fun m E w hI=>?_
  obtain ⟨j,G2,hj,hja,hrr,rfl,rfl,hs⟩:=hI
  have hC:=hC0.mono hs.le
  have hN:=hN0.mono hs.le
  refine Wt 2 [] hs rfl<|Zy hs (Yc rfl (fun h80=>?_) fun h80=>?_)
  ·
   refine Wp 8 [0] hs rfl<|Zy hs (Eo hrr j underlying33 sizeOf3 rfl rfl rfl oM fun p81 hp81=>?_)
   obtain ⟨x,hxe⟩:∃ x,x=rr[j]'oM:=⟨_,rfl⟩
   rw [← hxe] at hp81
   refine Zy hs (Yg rfl (hp81)<|Wp 5 [0] hs rfl<|Zy hs (Di rfl rfl rfl oM<|Wp 3 [] hs rfl<|Zg hs rfl (Yc rfl (fun h88=>?_) fun h88=>?_)))
   ·
    refine Wp 7 [0,0] hs rfl<|Ah<|Zz results248 rfl ?_
    exact ⟨_,[],hs.done,rfl,congrArg Value.bool (Gj (by rw [lW (k:=k) oM (show Qd d _=false from by rw [← herr];unfold Qd;rw [lW (p:=fun x=>decide (x<d.next.length)) (l:=rr) (k:=j) oM (decide_eq_false oM),Bool.and_false])];simp)).symm⟩
   refine Wp 5 [0] hs rfl<|Zy hs (Ya (s:=((j+1:Nat):Int)) rfl<|Wp 1 [] hs rfl<|Zx [1,3,65,66,67,77,78,79] rfl ⟨j+1,_,by omega,jA oM hja (by rw [← hxe];exact decide_eq_true oM),hrr,rfl,rfl,hs⟩)
  refine Wp 4 [0] hs rfl ?_
  refine Zr<|Zy hs (Ya (s:=((k+1:Nat):Int)) rfl<|Wp 1 [] hs rfl ?_)
  have hrk:Qd d rr=true:=by unfold Qd;rw [show j=rr.length by omega,List.take_length] at hja;rw [hja,decide_eq_true oM];rfl
  refine Zx [1,3,65,66,67] rfl ⟨k+1,_,by omega,jA oM hra (by rw [← herr];exact hrk),rfl,rfl,hs⟩
 refine Wp 4 [0] hs rfl<|Wu 4 [0] hs rfl<|Ah<|Zz results248 rfl ?_
 exact ⟨_,[],hs.done,rfl,congrArg Value.bool ((Ip d).2 ⟨by omega,by omega,by omega,by omega,by omega,hcok,by rw [show k=d.next.length by omega,List.take_length] at hra;exact hra⟩).symm⟩
theorem wK {G:Ghost} {bx:Nat} {t:Tb} {a:Cs} (ht:eV G bx t) (h64:t.acc.length≤64) :
  Ai prog 288 [.agg #[Vi (a.p:Int),Vi (a.q:Int),.int .u64 (a.s:Int)],Vp bx] G [] fun r _ H'=>H'=[]∧r=.bool (dN t a):=by
 obtain ⟨vn,va,hB,hcl,hN,hA⟩:=ht
 obtain ⟨An,cn,rfl⟩:=Be.slice hN
 obtain ⟨Aa,ca,rfl,_⟩:=id hA
 refine Ai.of_T [(0,_),(1,_)] func288 rfl ntmps288 sM rfl fun w0 hs=>?_
 have hB0:=hB
 have hN0:=hN
 have hA0:=hA
 refine Wt 2 [] hs rfl<|O_s (Sb hs rfl fun b2 _ hs=>Wp 6 [0,0,0] hs rfl<|Zy hs (Yc rfl (fun h6=>?_) fun h6=>?_))
 ·
  refine Wp 8 [0] hs rfl<|Ah<|Zz results288 rfl ?_
  exact ⟨_,[],hs.done,rfl,congrArg Value.bool (by unfold dN;rw [decide_eq_true (show a.p=1 by omega)];rfl)⟩
 refine Wp 1 [] hs rfl<|Zg hs rfl (Cu (vs:=(Cg t.cell t.cells (.slice An t.next.length cn) (.slice Aa t.acc.length ca))) isAgg300 sizeOf300 rfl hB.whole (Bp hcl)<|Wp 2 [2,0] hs rfl<|Ch 7 rfl rfl (Sc (eU (s:=a.s) ⟨_,_,rfl,hcl,hN,hA⟩ h64) hs rfl fun v1 G' H' _ hR hG11 hs=>?_))
 obtain ⟨rfl,rfl⟩:=hR
 replace hs:=hs.n rfl
 refine Wp 3 [0] hs rfl<|Ah<|Zz results288 rfl ?_
 exact ⟨_,[],hs.done,rfl,congrArg Value.bool (by unfold dN;rw [decide_eq_false (show ¬ a.p=1 by omega)];rfl)⟩
theorem wL {G:Ghost} {bx c:Nat} {t:Tb} {a:Cs} (ht:eV G bx t) (hok:t.ok) (h64:t.next.length≤64) (hc:c<256) :
  Ai prog 287 [.agg #[Vi (a.p:Int),Vi (a.q:Int),.int .u64 (a.s:Int)],Vi (c:Int),Vp bx] G [] fun r _ H'=>H'=[]∧r=stK (dM t a c):=by
 obtain ⟨vn,va,hB,hcl,hN,hA⟩:=ht
 obtain ⟨An,cn,rfl⟩:=Be.slice hN
 obtain ⟨Aa,ca,rfl,_⟩:=id hA
 have hal:=hok.2.2.1
 refine Ai.of_T [(0,_),(1,_),(2,_)] func287 rfl ntmps287 sM rfl fun w0 hs=>?_
 have hB0:=hB
 have hN0:=hN
 have hA0:=hA
 refine Wt 2 [] hs rfl<|O_s (Sb hs rfl fun b3 _ hs=>O_s (Sa hs zeroValue311 rfl fun b5 _ hs=>Wp 3 [0] hs rfl<|Zy hs (Cu (vs:=(Cg t.cell t.cells (.slice An t.next.length cn) (.slice Aa t.acc.length ca))) isAgg300 sizeOf300 rfl hB.whole (Bp hcl)<|Wp 3 [2,1] hs rfl<|O_s (Sc (oZ (s:=a.s) ⟨_,_,rfl,hcl,hN,hA⟩ hok h64 hc) hs rfl fun v1 G' H' _ hR hG11 hs=>?_))))
 obtain ⟨rfl,rfl⟩:=hR
 replace hs:=hs.n rfl
 replace hB:=hB.mono hG11
 replace hN:=hN.mono hG11
 replace hA:=hA.mono hG11
 refine O_s (Sa hs zeroValue309 rfl fun b6 _ hs=>O_n (Sg hs rfl (rfl) fun _ hs=>Wp 4 [0] hs rfl<|Zy hs (Cu (vs:=(Cg t.cell t.cells (.slice An t.next.length cn) (.slice Aa t.acc.length ca))) isAgg300 sizeOf300 rfl hB.whole (Bp hcl)<|Wp 1 [0] hs rfl<|O_s (Sc (eU (s:=Zp t a.s c) ⟨_,_,rfl,hcl,hN,hA⟩ oM) hs rfl fun v2 G' H' _ hR hG14 hs=>?_))))
 obtain ⟨rfl,rfl⟩:=hR
 replace hs:=hs.n rfl
 refine Wp 1 [0] hs rfl<|Fv rfl (fun h14=>?_) (fun h14=>?_)
 ·
  refine Zr<|Zy hs (Du 0 underlying309 sizeOf125 rfl rfl rfl dC (m:=0) rfl<|Wp 1 [0] hs rfl<|Zy hs (Tw (b:=1) rfl rfl<|Zy hs (Du 0 underlying309 sizeOf125 rfl rfl rfl dC (m:=0) rfl<|O_n (Sd hs rfl rfl fun _ hs=>Wp 4 [0,0] hs rfl<|Zy hs (Ba zeroValue311 rfl iZ rfl (cs:=[_,_,_]) rfl<|O_n (Sg hs.f1 rfl (rfl) fun _ hs=>Wp 1 [0] hs rfl<|Ah<|Zz results287 (Rb 0 hs rfl rF) ?_))))))
  exact ⟨_,[],hs.done,rfl,by unfold dM;rw [if_pos h14];rfl⟩
 refine Wu 4 [0] hs rfl<|Zy hs (Ba zeroValue311 rfl iZ rfl (cs:=[_,_,_]) rfl<|O_n (Sg hs.f1 rfl (rfl) fun _ hs=>Wp 1 [0] hs rfl<|Ah<|Zz results287 (Rb 0 hs rfl rF) ?_))
 exact ⟨_,[],hs.done,rfl,by unfold dM;rw [if_neg (by rw [h14];simp)];rfl⟩
end Go.Proofs.YtngdgnolkilheaaGreatDoor
