/- Part 2 of the walk through the functions that the laws of package fleet call: each function's contract, without conditions but those that its statement names. -/
import Derived.Test.YtkeplgdofphnkaaGreatDoorEA
set_option maxHeartbeats 4000000
set_option maxRecDepth 10000
set_option linter.unusedVariables false
set_option linter.unusedSimpArgs false
set_option linter.unusedSectionVars false
namespace Go.Ex
open Go Go.RowKit
theorem kR {p:Prop} (h:p:=by kernel_rfl):p:=h
theorem oM {p:Prop} (h:p:=by omega):p:=h
theorem sM {p:Prop} (h:p:=by simp):p:=h
theorem aS {p:Prop} (h:p:=by assumption):p:=h
theorem dC {p:Prop} (h:p:=by decide):p:=h
theorem rF {p:Prop} (h:p:=by exact rfl):p:=h
abbrev Vn:Value:=.slice none 0 0
abbrev Vf:Value:=.bool false
abbrev Vt:Value:=.bool true
abbrev Vi (n:Int):Value:=.int .i64 n
abbrev Vp (b:Nat):Value:=.pointer (some ⟨b,0,none⟩)
abbrev Vs (b n c:Nat):Value:=.slice (some ⟨b,0,none⟩) n c
class Ia (P:Program) (t:Nat) (b:outParam Bool):Prop where p:∀ w,(isAgg t).run P w=.ok b w
class Sz (P:Program) (t:Nat) (n:outParam Nat):Prop where p:∀ w,(sizeOf t).run P w=.ok n w
class Un (P:Program) (t:Nat) (d:outParam TypeDesc):Prop where p:P.underlying t=some d
class Fo (P:Program) (s i:Nat) (n:outParam Nat):Prop where p:fieldOff P s i=some n
class Ic (P:Program) (f:Nat) (fn:outParam Func):Prop where
 p:P.funcs[f]?=some fn
 b:fn.body.isSome=true
 n : (fn.name == "runtime.NumGoroutine") = false
def nl:List Value→Option (List Value)
 | []=>some []
 | a::l=>match nl l with
  | none=>none
  | some r=>some (a::r)
theorem nl_eq:∀ {l r:List Value},nl l=some r→l=r
 | [],r,h=>by injection h
 | a::l,r,h=>by
  unfold nl at h
  cases h1:nl l with
  | none=>rw [h1] at h;cases h
  | some u=>rw [h1] at h;injection h with h;rw [nl_eq h1,h]
section
variable {P:Program} {N:Nat} {r:Option Nat} {ops:Array Oper} {Q:Exit→Env→World→Prop} {D:List Deferred} {L M:List (Nat×Value)} {E:Env} {w:World} {W:World→Prop} {l:List Oper} {d:Option Tmp} {t:Tmp} {op:Op} {ty:TypeId} {pos:String} {aft:Array Edge} {g:Option (Nat×Bool)} {o q:Operand} {v:Value}
 {c:Ctx} {G:Ghost} {H:List Res} {K:Value→Prop}
theorem Zk {cd:Code} (ks:List Nat) (h:egets M ks=some L) (k:T ⟨P,N,r⟩ cd Q ⟨D,L⟩ w):T ⟨P,N,r⟩ cd Q ⟨D,M⟩ w:=T_kp ks h k
theorem Zr {id:Nat} (k:O ⟨P,N,r⟩ l.toArray Q l E w) (h:dstsLt N l=true:=by exact rfl):T ⟨P,N,r⟩ (.region id l.toArray false) Q E w:=T_region h k
theorem Zs {id:Nat} {cd:Code} (k:O ⟨P,N,r⟩ l.toArray (sq (T ⟨P,N,r⟩ cd Q) Q) l E w) (h:dstsLt N l=true:=by exact rfl):T ⟨P,N,r⟩ (.seq (.region id l.toArray false) cd) Q E w:=T_seq (T_region h k)
theorem Ze (k:Q .normal E w):O ⟨P,N,r⟩ ops Q [] E w:=O_nil k
theorem Zq {cd:Code} {Q':Exit→Env→World→Prop} (ks:List Nat) (h:egets M ks=some L) (k:T ⟨P,N,r⟩ cd Q ⟨D,L⟩ w):O ⟨P,N,r⟩ ops (sq (T ⟨P,N,r⟩ cd Q) Q') [] ⟨D,M⟩ w:=O_nil (T_kp ks h k)
theorem Zl {id:Nat} {cd:Code} (ks:List Nat) (I:Nat→Env→World→Prop) {n0:Nat} (h:egets M ks=some L) (h0:I n0 ⟨D,L⟩ w) (k:∀ n E w,I n E w→T ⟨P,N,r⟩ cd (lp I n (bk id Q)) E w):T ⟨P,N,r⟩ (.block id (.loop cd)) Q ⟨D,M⟩ w :=
 T_block (T_loop I (egets_sub h) h0 k)
theorem Zy (hs:W w) (k:Y ⟨P,N,r⟩ W ⟨some t,op,ty,pos,aft,none⟩ ⟨D,L⟩ fun v=>O ⟨P,N,r⟩ ops Q l ⟨D,(t,v)::L⟩ w) (hd:notDefer op=true:=by exact rfl):O ⟨P,N,r⟩ ops Q (⟨some t,op,ty,pos,aft,none⟩::l) ⟨D,L⟩ w:=O_y hs k hd
theorem Zg (hs:W w) {j d:Nat} {b:Bool} (h:((ops[j]?).bind (·.dst),eget L d)=(some d,some (.bool b)))
  (k:Y ⟨P,N,r⟩ W ⟨some t,op,ty,pos,aft,some (j,b)⟩ ⟨D,L⟩ fun v=>O ⟨P,N,r⟩ ops Q l ⟨D,(t,v)::L⟩ w) (hd:notDefer op=true:=by exact rfl):O ⟨P,N,r⟩ ops Q (⟨some t,op,ty,pos,aft,some (j,b)⟩::l) ⟨D,L⟩ w :=
 O_yy d hs (congrArg Prod.fst h) (congrArg Prod.snd h) k hd
theorem Za (h:ev ⟨D,L⟩ o=some v) (k:O ⟨P,N,r⟩ ops Q l ⟨D,(t,v)::L⟩ w):O ⟨P,N,r⟩ ops Q (⟨some t,.assign o,ty,pos,aft,none⟩::l) ⟨D,L⟩ w:=O_a h k
theorem Zm (h:ev ⟨D,L⟩ o=some v) (k:O ⟨P,N,r⟩ ops Q l ⟨D,(t,v)::L⟩ w):O ⟨P,N,r⟩ ops Q (⟨some t,.move o,ty,pos,aft,none⟩::l) ⟨D,L⟩ w:=O_m h k
section
variable {pre:List Nat} {fuel:Nat} {listed:Array Bool}
theorem Xt (i:Nat) (hW:W w) (h:(ops[i]?,gd ops ⟨some t,op,ty,pos,aft,g⟩ ⟨D,L⟩)=(some ⟨some t,op,ty,pos,aft,g⟩,some true))
  (k:Y ⟨P,N,r⟩ W ⟨some t,op,ty,pos,aft,g⟩ ⟨D,L⟩ fun v=>A ⟨P,N,r⟩ ops pre W Q fuel (listed.setIfInBounds i true) ⟨D,(t,v)::L⟩ w) (hf:takeOk ops pre listed i=true:=by kernel_rfl):A ⟨P,N,r⟩ ops pre W Q (fuel+1) listed ⟨D,L⟩ w :=
 A_take i (congrArg Prod.fst h) hf (congrArg Prod.snd h) hW k
theorem Xo (i:Nat) (h:(ops[i]?,gd ops ⟨some t,op,ty,pos,aft,g⟩ ⟨D,L⟩)=(some ⟨some t,op,ty,pos,aft,g⟩,some true))
  (k:S ⟨P,N,r⟩ ⟨some t,op,ty,pos,aft,g⟩ (np Q) (fun v w'=>W w'∧A ⟨P,N,r⟩ ops pre W Q fuel (listed.setIfInBounds i true) ⟨D,(t,v)::L⟩ w') ⟨D,L⟩ w) (hr:(Region.ready .any ops listed == [i])=true:=by kernel_rfl):A ⟨P,N,r⟩ ops pre W Q (fuel+1) listed ⟨D,L⟩ w :=
 A_only i (congrArg Prod.fst h) hr (congrArg Prod.snd h) k
theorem Xa (i:Nat) (h:(ops[i]?,gd ops ⟨some t,op,ty,pos,aft,g⟩ ⟨D,L⟩)=(some ⟨some t,op,ty,pos,aft,g⟩,some true))
  (k:S ⟨P,N,r⟩ ⟨some t,op,ty,pos,aft,g⟩ (np Q) (fun v w'=>A ⟨P,N,r⟩ ops pre W Q fuel (listed.setIfInBounds i true) ⟨D,(t,v)::L⟩ w') ⟨D,L⟩ w) (hr:(Region.ready .any ops listed == [i])=true:=by kernel_rfl) (hp:pre.contains i=false:=by kernel_rfl):A ⟨P,N,r⟩ ops pre W Q (fuel+1) listed ⟨D,L⟩ w :=
 A_tail i (congrArg Prod.fst h) hr hp (congrArg Prod.snd h) k
theorem Xn (i:Nat) (h:(ops[i]?,gd ops ⟨none,op,ty,pos,aft,g⟩ E)=(some ⟨none,op,ty,pos,aft,g⟩,some true))
  (k:S ⟨P,N,r⟩ ⟨none,op,ty,pos,aft,g⟩ (np Q) (fun _ w'=>A ⟨P,N,r⟩ ops pre W Q fuel (listed.setIfInBounds i true) E w') E w) (hr:(Region.ready .any ops listed == [i])=true:=by kernel_rfl) (hp:pre.contains i=false:=by kernel_rfl):A ⟨P,N,r⟩ ops pre W Q (fuel+1) listed E w :=
 A_tailN i (congrArg Prod.fst h) hr hp (congrArg Prod.snd h) k
theorem Xm (i:Nat) (h:(ops[i]?,gd ops ⟨none,op,ty,pos,aft,g⟩ E)=(some ⟨none,op,ty,pos,aft,g⟩,some true))
  (k:S ⟨P,N,r⟩ ⟨none,op,ty,pos,aft,g⟩ (np Q) (fun _ w'=>W w'∧A ⟨P,N,r⟩ ops pre W Q fuel (listed.setIfInBounds i true) E w') E w) (hr:(Region.ready .any ops listed == [i])=true:=by kernel_rfl):A ⟨P,N,r⟩ ops pre W Q (fuel+1) listed E w :=
 A_onlyN i (congrArg Prod.fst h) hr (congrArg Prod.snd h) k
theorem Xe (k:Q .normal E w) (hr:(Region.ready .any ops listed).isEmpty=true:=by kernel_rfl):A ⟨P,N,r⟩ ops pre W Q fuel listed E w:=A_done hr k
end
theorem Yf {s i b j n:Nat} (m:Nat) [hf:Fo P s i n] (h:ev E o=some (.pointer (some ⟨b,j,none⟩))) (k:K (.pointer (some ⟨b,m,none⟩))) (hm:j+n=m:=by exact rfl):Y ⟨P,N,r⟩ W ⟨d,.fieldAddr s o i,ty,pos,aft,g⟩ E K :=
 Y_fieldAddr hf.p h hm k
theorem Yl {t e b j:Nat} {cs:List Value} (i:Nat) (h:(ev E o,H[i]?,cs[j]?)=(some (.pointer (some ⟨b,j,none⟩)),some (.blk b e cs),some v)) (k:K v) [hA:Ia P t false]:Y ⟨P,N,r⟩ (St c G H) ⟨d,.load t o,ty,pos,aft,g⟩ E K :=
 Y_ld i hA.p (congrArg Prod.fst h) (congrArg (fun x=>x.2.1) h) (congrArg (fun x=>x.2.2) h) k
theorem Yq (h:ev E o=some v) (k:K v):Y ⟨P,N,r⟩ W ⟨d,.assign o,ty,pos,aft,g⟩ E K:=Y_assign h k
section
variable {kd:IntKind} {a b:Int} {xt yt:TypeId} {bo:BinOp}
theorem Yc {p:Prop} (h:(ev E o,ev E q,isCmp bo)=(some (.int kd a),some (.int kd b),true)) (k1:p→K (.bool true)) (k2:¬ p→K (.bool false)) (e:p=cmpP bo a b:=by first|(dsimp only [cmpP];done)|exact rfl):Y ⟨P,N,r⟩ W ⟨d,.binOp bo xt o q yt,ty,pos,aft,g⟩ E K :=
 Y_cmpS (congrArg Prod.fst h) (congrArg (fun x=>x.2.1) h) (congrArg (fun x=>x.2.2) h) (fun h=>k1 (e▸h)) (fun h=>k2 (e▸h))
theorem Ya {s:Int} (h:(ev E o,ev E q)=(some (.int .i64 a),some (.int .i64 b))) (k:K (.int .i64 s)) (hc:a+b=s:=by omega) (hb : -9223372036854775808≤s∧s≤9223372036854775807:=by omega):Y ⟨P,N,r⟩ W ⟨d,.binOp .add xt o q yt,ty,pos,aft,g⟩ E K :=
 Y_add (congrArg Prod.fst h) (congrArg Prod.snd h) hc hb k
end
theorem Yk {t e b n:Nat} {cs:List Value} (i:Nat) [hA:Ia P t true] [hS:Sz P t n] (h:(ev E o,H[i]?)=(some (.pointer (some ⟨b,0,none⟩)),some (.blk b e cs))) (hn:cs.length=n) (k:K (.agg cs.toArray)):Y ⟨P,N,r⟩ (St c G H) ⟨d,.load t o,ty,pos,aft,g⟩ E K :=
 Y_ldW i hA.p hS.p (congrArg Prod.fst h) (congrArg Prod.snd h) hn k
theorem Yg {t:Nat} {p:Addr} (h:ev E o=some (.pointer (some p))) (hp:gcell G p=some v) (k:K v) [hA:Ia P t false]:Y ⟨P,N,r⟩ (St c G H) ⟨d,.load t o,ty,pos,aft,g⟩ E K:=Y_ldG hA.p h hp k
section
variable {K:Value→World→Prop}
theorem Sc {f:FuncId} {ao:List Operand} {ats:Array TypeId} {args:List Value} {H1:List Res} {R:Value→Ghost→List Res→Prop} {fn:Func} (h:FnOk P f args G H1 R) (hs:St c G (H1++H) w) (ha:ao.map (ev E)=args.map some)
  (kk:∀ v G' H' w',R v G' H'→G.le G'→St c G' (H'++H) w'→K v w') [hF:Ic P f fn]:S ⟨P,N,r⟩ ⟨d,.call { callee:=.value (.func f),args:=ao.toArray,argTypes:=ats },ty,pos,aft,g⟩ Q K E w :=
 S_call hs ha hF.p hF.b hF.n h kk
theorem Sa {e:TypeId} {z:Value} {cs:List Value} (hs:St c G H w) (hz:∀ w,(zeroValue e).run P w=.ok z w) (hc:nl z.cells.toList=some cs) (k:∀ b w',St c G (.blk b e cs::H) w'→K (.pointer (some ⟨b,0,none⟩)) w'):S ⟨P,N,r⟩ ⟨d,.alloc e,ty,pos,aft,g⟩ Q K E w :=
 S_alloc hs hz (nl_eq hc) k
theorem Sb {e:TypeId} {cs:List Value} (hs:St c G H w) (h:(ev E o,nl v.cells.toList)=(some v,some cs)) (k:∀ b w',St c G (.blk b e cs::H) w'→K (.pointer (some ⟨b,0,none⟩)) w'):S ⟨P,N,r⟩ ⟨d,.box e o,ty,pos,aft,g⟩ Q K E w :=
 S_box hs (congrArg Prod.fst h) (nl_eq (congrArg Prod.snd h)) k
theorem Sd {t b j e:Nat} {cs cs':List Value} (hs:St c G (.blk b e cs::H) w) [hS:Sz P t 1] (h:(ev E o,ev E q,nl (cs.set j v))=(some (.pointer (some ⟨b,j,none⟩)),some v,some cs')) (hone:v.oneCell'=true) (k:∀ w',St c G (.blk b e cs'::H) w'→K undef w') (hj:j<cs.length:=by simp):S ⟨P,N,r⟩ ⟨d,.store t o q,ty,pos,aft,g⟩ Q K E w :=
 S_st hs hS.p (congrArg Prod.fst h) (congrArg (fun x=>x.2.1) h) hone hj (nl_eq (congrArg (fun x=>x.2.2) h)) k
theorem Sg {t b j e n:Nat} {vs cs cs':List Value} (hs:St c G (.blk b e cs::H) w) [hS:Sz P t n] (h:(ev E o,ev E q,nl (cs.take j++vs++cs.drop (j+n)))=(some (.pointer (some ⟨b,j,none⟩)),some (.agg vs.toArray),some cs')) (hone:vs.all (·.oneCell')=true)
  (k:∀ w',St c G (.blk b e cs'::H) w'→K undef w') (hn:vs.length=n:=by exact rfl) (hj:j+n≤cs.length:=by simp):S ⟨P,N,r⟩ ⟨d,.store t o q,ty,pos,aft,g⟩ Q K E w :=
 S_stA hs hS.p (congrArg Prod.fst h) (congrArg (fun x=>x.2.1) h) hn hone hj (nl_eq (congrArg (fun x=>x.2.2) h)) k
theorem Sw {t b e n:Nat} {vs cs:List Value} (hs:St c G (.blk b e cs::H) w) [hS:Sz P t n] (h:(ev E o,ev E q)=(some (.pointer (some ⟨b,0,none⟩)),some (.agg vs.toArray)))
  (hn:vs.length=n) (hc:cs.length=n) (hone:vs.all (·.oneCell')=true) (k:∀ w',St c G (.blk b e vs::H) w'→K undef w'):S ⟨P,N,r⟩ ⟨d,.store t o q,ty,pos,aft,g⟩ Q K E w :=
 S_stW hs hS.p (congrArg Prod.fst h) (congrArg Prod.snd h) hn hc hone k
theorem Se {t e k n:Nat} {ps:List (Nat×Operand)} {z:Value} {cs:List Value} {vs:List (Nat×Value)} (hs:St c G H w) [hS:Sz P e k] (hz:∀ w,(zeroValue e).run P w=.ok z w)
  (h:(evs E ps,fillL (fun i=>some (i*k,k)) (List.replicate n z.cells.toList).flatten vs)=(some vs,some cs)) (kk:∀ v w',St c G (.row e k v n cs::H) w'→(∃ b,v=.slice (some ⟨b,0,none⟩) n n)→K v w')
  [hu:Un P t (.slice e)] (hk:z.cells.size=k:=by exact rfl) (hn:n*k≤16777216:=by decide) (hn':n≤16777216:=by decide) (hl:cs.length=n*k:=by exact rfl):S ⟨P,N,r⟩ ⟨d,.buildSlice t n ps.toArray,ty,pos,aft,g⟩ Q K E w :=
 S_lit hs hu.p hS.p hz hk rfl hn hn' (congrArg Prod.fst h) (congrArg Prod.snd h) hl kk
end
theorem Zz {fn:Func} {rv:ResultVar} {v:Value} {R:Value→World→Prop} (hr:fn.results=#[rv]) (h:ResOk P E w rv v) (hR:R v w) (hd:E.d=[]:=by exact rfl):Rt P N fn R .ret E w:=Rt_fin (vs:=[v]) (rs:=[rv]) hr hd ⟨h,trivial⟩ hR
theorem Rb {a b e n:Nat} {ty:TypeId} {cs:List Value} (i:Nat) (hs:St c G H w) [hA:Ia P ty true] [hS:Sz P ty n] (h:(eget E.l a,H[i]?)=(some (.pointer (some ⟨b,0,none⟩)),some (.blk b e cs))) (hn:cs.length=n):ResOk P E w (.cell a ty) (.agg cs.toArray) :=
 ResOk_blk i hs hA.p hS.p (congrArg Prod.fst h) (congrArg Prod.snd h) hn
end
def nR:List Res→Option (List Res)
 | []=>some []
 | a::l=>match nR l with
  | none=>none
  | some r=>some (a::r)
theorem nR_eq:∀ {l r:List Res},nR l=some r→l=r
 | [],r,h=>by injection h
 | a::l,r,h=>by
  unfold nR at h
  cases h1:nR l with
  | none=>rw [h1] at h;cases h
  | some u=>rw [h1] at h;injection h with h;rw [nR_eq h1,h]
theorem St.n {c:Ctx} {G:Ghost} {H H':List Res} {w:World} (hs:St c G H w) (h:nR H=some H'):St c G H' w:=nR_eq h▸hs
structure Te (P:Program) where
 t:Nat
 b:Bool
 n:Nat
 hb:∀ w,(isAgg t).run P w=.ok b w
 hn:b=true→∀ w,(sizeOf t).run P w=.ok n w
structure Fe (P:Program) where
 s:Nat
 i:Nat
 n:Nat
 h:fieldOff P s i=some n
structure Se' (P:Program) where
 t:Nat
 e:Nat
 h:P.underlying t=some (.slice e)
structure Tq (P:Program) where
 ts:List (Te P)
 fs:List (Fe P)
 ss:List (Se' P)
variable {P:Program}
def tf (t:Nat):List (Te P)→Option (Te P)
 | []=>none
 | e::l=>bif Nat.beq e.t t then some e else tf t l
def ff (s i:Nat):List (Fe P)→Option (Fe P)
 | []=>none
 | e::l=>bif Nat.beq e.s s && Nat.beq e.i i then some e else ff s i l
def sf (t:Nat):List (Se' P)→Bool
 | []=>false
 | e::l=>bif Nat.beq e.t t then true else sf t l
theorem tf_eq {t:Nat}:∀ {l:List (Te P)} {e:Te P},tf t l=some e→e.t=t
 | [],_,h=>by cases h
 | a::l,e,h=>by
  unfold tf at h
  cases hb:Nat.beq a.t t with
  | true=>rw [hb] at h;injection h with h;exact h▸Nat.eq_of_beq_eq_true hb
  | false=>rw [hb] at h;exact tf_eq h
theorem ff_eq {s i:Nat}:∀ {l:List (Fe P)} {e:Fe P},ff s i l=some e→e.s=s∧e.i=i
 | [],_,h=>by cases h
 | a::l,e,h=>by
  unfold ff at h
  cases hb:(Nat.beq a.s s && Nat.beq a.i i) with
  | true =>
   rw [hb] at h;injection h with h;subst h
   rw [Bool.and_eq_true] at hb
   exact ⟨Nat.eq_of_beq_eq_true hb.1,Nat.eq_of_beq_eq_true hb.2⟩
  | false=>rw [hb] at h;exact ff_eq h
theorem sf_eq {t:Nat}:∀ {l:List (Se' P)},sf t l=true→∃ e,P.underlying t=some (.slice e)
 | [],h=>by cases h
 | a::l,h=>by
  unfold sf at h
  cases hb:Nat.beq a.t t with
  | true=>exact ⟨a.e,Nat.eq_of_beq_eq_true hb▸a.h⟩
  | false=>rw [hb] at h;exact sf_eq h
def kdq:IntKind→IntKind→Bool
 | .i64,.i64=>true
 | .u64,.u64=>true
 | .u8,.u8=>true
 | .u32,.u32=>true
 | _,_=>false
theorem kdq_eq {a b:IntKind} (h:kdq a b=true):a=b:=by
 cases a<;>cases b<;>first|rfl|cases h
def cmpB (o:BinOp) (a b:Int):Option Bool :=
 match o with
 | .eql=>some (decide (a=b))|.neq=>some (!decide (a=b))|.lss=>some (decide (a<b))|.leq=>some (decide (a≤b))|.gtr=>some (decide (b<a))|.geq=>some (decide (b≤a))|_=>none
theorem cmpB_ok {o:BinOp} {a b:Int} {t:Bool} (h:cmpB o a b=some t):isCmp o=true∧(cmpP o a b↔t=true):=by
 cases o<;>first|(cases h;done)|(refine ⟨rfl,?_⟩;injection h with h;subst h;simp [cmpP])
def qv (F:Tq P) (H:List Res) (E:Env) (op:Op) (h:List Nat):Option (Value×List (Nat×Nat)×List Nat) :=
 match op with
 | .move o=>match ev E o with
  | some v=>some (v,[],h)
  | none=>none
 | .assign o=>match ev E o with
  | some v=>some (v,[],h)
  | none=>none
 | .pick c o q=>match ev E c with
  | some (.bool true)=>(match ev E o with|some v=>some (v,[],h)|none=>none)
  | some (.bool false)=>(match ev E q with|some v=>some (v,[],h)|none=>none)
  | _=>none
 | .extract o i=>match ev E o with
  | some (.tuple ⟨vs⟩)=>(match vs[i]? with|some v=>some (v,[],h)|none=>none)
  | _=>none
 | .unOp .not _ o=>match ev E o with
  | some (.bool b)=>some (.bool !b,[],h)
  | _=>none
 | .binOp bo _ o q _=>match ev E o,ev E q with
  | some (.int kd a),some (.int kd' b)=>(match kdq kd kd',cmpB bo a b with
   | true,some t=>some (.bool t,[],h)
   | _,_=>none)
  | _,_=>none
 | .fieldAddr s o i=>match ev E o,ff s i F.fs,h with
  | some (.pointer (some ⟨b,j,none⟩)),some e,m::h=>bif Nat.beq (j+e.n) m then some (.pointer (some ⟨b,m,none⟩),[],h) else none
  | _,_,_=>none
 | .load t o=>match ev E o,tf t F.ts,h with
  | some (.pointer (some ⟨b,j,none⟩)),some e,m::h=>(match H[m]? with
   | some (.blk b' _ cs)=>bif e.b then (match nl ((cs.drop j).take e.n) with
     | some vs=>bif Nat.beq vs.length e.n then some (.agg ⟨vs⟩,[(b,b')],h) else none
     | none=>none)
    else (match cs[j]? with | some v=>some (v,[(b,b')],h) | none=>none)
   | _=>none)
  | _,_,_=>none
 | .call ⟨.builtin .len,⟨[o]⟩,⟨[t]⟩⟩=>match ev E o,sf t F.ss with
  | some (.slice _ n _),true=>some (.int .i64 (n:Int),[],h)
  | _,_=>none
 | _=>none
def eqs (es:List (Nat×Nat)):Prop:=es.map Prod.fst=es.map Prod.snd
theorem eqs_app {a b:List (Nat×Nat)} (h:eqs (a++b)):eqs a∧eqs b:=by
 unfold eqs at h ⊢
 rw [List.map_append,List.map_append] at h
 exact List.append_inj h Z54
section
variable {N:Nat} {r:Option Nat} {c:Ctx} {G:Ghost} {H:List Res} {E:Env} {F:Tq P} {d:Option Tmp} {op:Op} {ty:TypeId} {pos:String} {aft:Array Edge} {g:Option (Nat×Bool)} {K:Value→Prop} {v:Value} {es:List (Nat×Nat)} {h h':List Nat}
theorem qv_nd (hq:qv F H E op h=some (v,es,h')):notDefer op=true:=by
 cases op<;>first|rfl|cases hq
theorem qv_ok (hq:qv F H E op h=some (v,es,h')) (he:eqs es) (k:K v):Y ⟨P,N,r⟩ (St c G H) ⟨d,op,ty,pos,aft,g⟩ E K:=by
 unfold qv at hq
 split at hq
 ·split at hq
  ·rename_i hv;injection hq with hq;injection hq with h1 h2;subst h1;exact Y_move hv k
  ·cases hq
 ·split at hq
  ·rename_i hv;injection hq with hq;injection hq with h1 h2;subst h1;exact Y_assign hv k
  ·cases hq
 ·split at hq
  ·rename_i hc;split at hq
   ·rename_i hv;injection hq with hq;injection hq with h1 h2;subst h1;exact Y_pickT hc hv k
   ·cases hq
  ·rename_i hc;split at hq
   ·rename_i hv;injection hq with hq;injection hq with h1 h2;subst h1;exact Y_pickF hc hv k
   ·cases hq
  ·cases hq
 ·split at hq
  ·rename_i hc;split at hq
   ·rename_i hv;injection hq with hq;injection hq with h1 h2;subst h1;exact Y_extract hc (by simpa using hv) k
   ·cases hq
  ·cases hq
 ·split at hq
  ·rename_i hv;injection hq with hq;injection hq with h1 h2;subst h1;exact Y_not hv k
  ·cases hq
 ·split at hq
  ·rename_i h1 h2
   split at hq
   ·rename_i hk hc
    injection hq with hq;injection hq with h3 h4;subst h3
    obtain rfl:=kdq_eq hk
    exact Y_cmpB h1 h2 (cmpB_ok hc).1 (cmpB_ok hc).2 k
   ·cases hq
  ·cases hq
 ·split at hq
  ·rename_i s o i h b j e m h0 hv hf
   obtain ⟨rfl,rfl⟩:=ff_eq hf
   cases hb:Nat.beq (j+e.n) m with
   | true =>
    rw [hb] at hq;injection hq with hq;injection hq with h1 h2;subst h1
    exact Y_fieldAddr e.h hv (Nat.eq_of_beq_eq_true hb) k
   | false=>rw [hb] at hq;cases hq
  ·cases hq
 ·split at hq
  ·rename_i t o h b j e m h0 hv hf
   obtain rfl:=tf_eq hf
   split at hq
   ·rename_i b' y cs hi
    cases hb:e.b with
    | true =>
     rw [hb] at hq
     simp only [cond_true] at hq
     split at hq
     ·rename_i vs hvs
      cases hn:Nat.beq vs.length e.n with
      | true =>
       rw [hn] at hq;injection hq with hq;injection hq with h1 h2;injection h2 with h2 h3;subst h1;subst h2
       have:b=b':=by unfold eqs at he;injection he
       subst this
       exact Y_ldA m (by have:=e.hb;rwa [hb] at this) (e.hn hb) hv hi (nl_eq hvs) (Nat.eq_of_beq_eq_true hn) k
      | false=>rw [hn] at hq;cases hq
     ·cases hq
    | false =>
     rw [hb] at hq
     simp only [cond_false] at hq
     split at hq
     ·rename_i u hu
      injection hq with hq;injection hq with h1 h2;injection h2 with h2 h3;subst h1;subst h2
      have:b=b':=by unfold eqs at he;injection he
      subst this
      exact Y_ld m (by have:=e.hb;rwa [hb] at this) hv hi hu k
     ·cases hq
   ·cases hq
  ·cases hq
 ·split at hq
  ·rename_i hv hf
   obtain ⟨e,he'⟩:=sf_eq hf
   injection hq with hq;injection hq with h1 h2;subst h1
   exact Y_len he' hv k
  ·cases hq
 ·cases hq
end
inductive Md
 | cd (c:Code)
 | op (ops:Array Oper) (l:List Oper)
 | q (e:Exit)
inductive It
 | cd (d:Code)
 | bk (id:Nat)
@[reducible] def sqs (x:Cx):List It→(Exit→Env→World→Prop)→Exit→Env→World→Prop
 | [],Q=>Q
 | .cd d::ds,Q=>sq (T x d (sqs x ds Q)) (sqs x ds Q)
 | .bk i::ds,Q=>bk i (sqs x ds Q)
@[reducible] def At (x:Cx) (m:Md) (Q:Exit→Env→World→Prop) (E:Env) (w:World):Prop :=
 match m with
 | .cd c=>T x c Q E w
 | .op ops l=>O x ops Q l E w
 | .q e=>Q e E w
def pop:List It→Exit→Md×List It
 | [],e=>(.q e,[])
 | .cd d::ds,e=>(match e with
  | .normal=>(.cd d,ds)
  | e=>pop ds e)
 | .bk i::ds,e=>(match e with
  | .exit j=>bif Nat.beq j i then pop ds .normal else pop ds (.exit j)
  | e=>pop ds e)
theorem pop_ok {x:Cx} {Q:Exit→Env→World→Prop} {E:Env} {w:World}:∀ {ds ds':List It} {e:Exit} {m:Md},pop ds e=(m,ds')→At x m (sqs x ds' Q) E w→sqs x ds Q e E w:=by
 intro ds
 induction ds with
 | nil=>intro _ _ _ h k;injection h with h1 h2;subst h1;subst h2;exact k
 | cons a ds ih =>
  intro ds' e m h k
  unfold pop at h
  cases a with
  | cd d =>
   cases e with
   | normal=>injection h with h1 h2;subst h1;subst h2;exact k
   | _=>exact ih h k
  | bk i =>
   cases e with
   | exit j =>
    simp only at h
    show bif Nat.beq j i then sqs x ds Q .normal E w else sqs x ds Q (.exit j) E w
    cases hb:Nat.beq j i with
    | true=>rw [hb] at h;exact ih h k
    | false=>rw [hb] at h;exact ih h k
   | _=>exact ih h k
def kp (L:List (Nat×Value)):List Nat→Option (List (Nat×Value)×List Nat)
 | []=>none
 | 0::h=>some (L,h)
 | k::h=>match egets L (h.take k) with
  | some L=>some (L,h.drop k)
  | none=>none
theorem kp_ok {L L':List (Nat×Value)} {h h':List Nat} (hk:kp L h=some (L',h')):L'=L∨subL L' L:=by
 unfold kp at hk
 split at hk
 ·cases hk
 ·injection hk with hk;injection hk with h1 h2;exact .inl h1.symm
 ·split at hk
  ·rename_i he;injection hk with hk;injection hk with h1 h2;subst h1;exact .inr (egets_sub he)
  ·cases hk
theorem O_sub {x:Cx} {ops:Array Oper} {Q:Exit→Env→World→Prop} {l:List Oper} {D:List Deferred} {L M:List (Nat×Value)} {w:World} (hs:subL L M) (h:O x ops Q l ⟨D,L⟩ w):O x ops Q l ⟨D,M⟩ w :=
 fun hd a ha=>h hd a (ha.sub (E:=⟨D,M⟩) hs)
def qc (F:Tq P) (N:Nat) (H:List Res) (D:List Deferred):Nat→Md→List It→List (Nat×Value)→List Nat→Option (Md×List It×List (Nat×Value)×List (Nat×Nat))
 | 0,m,ds,L,_=>some (m,ds,L,[])
 | n+1,.op ops l,ds,L,h=>(match l with
  | []=>(match kp L h with
   | some (L,h)=>(match pop ds .normal with|(m,ds)=>qc F N H D n m ds L h)
   | none=>none)
  | ⟨some t,op,_,_,_,g⟩::l=>(match g with
   | none=>(match qv F H ⟨D,L⟩ op h with
    | some (v,es,h)=>(match qc F N H D n (.op ops l) ds ((t,v)::L) h with
     | some (m,ds,L,es')=>some (m,ds,L,es++es')
     | none=>none)
    | none=>none)
   | some (j,b)=>(match (ops[j]?).bind (·.dst) with
    | some d=>(match eget L d with
     | some (.bool b')=>bif b' == b then (match qv F H ⟨D,L⟩ op h with
       | some (v,es,h)=>(match qc F N H D n (.op ops l) ds ((t,v)::L) h with
        | some (m,ds,L,es')=>some (m,ds,L,es++es')
        | none=>none)
       | none=>none)
      else qc F N H D n (.op ops l) ds ((t,undef)::L) h
     | _=>none)
    | none=>none))
  | _=>none)
 | n+1,.cd c,ds,L,h=>(match c with
  | .seq a b=>qc F N H D n (.cd a) (.cd b::ds) L h
  | .region _ ⟨l⟩ false=>bif dstsLt N l then qc F N H D n (.op ⟨l⟩ l) ds L h else none
  | .cond c p q=>(match ev ⟨D,L⟩ c with
   | some (.bool true)=>qc F N H D n (.cd p) ds L h
   | some (.bool false)=>qc F N H D n (.cd q) ds L h
   | _=>none)
  | .block i c=>qc F N H D n (.cd c) (.bk i::ds) L h
  | .skip=>(match pop ds .normal with|(m,ds)=>qc F N H D n m ds L h)
  | .exit i=>(match pop ds (.exit i) with|(m,ds)=>qc F N H D n m ds L h)
  | _=>none)
 | _+1,.q _,_,_,_=>none
section
variable {N:Nat} {r:Option Nat} {Q:Exit→Env→World→Prop} {D:List Deferred} {c:Ctx} {G:Ghost} {H:List Res} {w:World} {F:Tq P}
theorem qc_ok (hs:St c G H w):∀ {n:Nat} {m m':Md} {ds ds':List It} {L L':List (Nat×Value)} {h:List Nat} {es:List (Nat×Nat)},
  qc F N H D n m ds L h=some (m',ds',L',es)→eqs es→At ⟨P,N,r⟩ m' (sqs ⟨P,N,r⟩ ds' Q) ⟨D,L'⟩ w→At ⟨P,N,r⟩ m (sqs ⟨P,N,r⟩ ds Q) ⟨D,L⟩ w:=by
 intro n
 induction n with
 | zero =>
  intro m m' ds ds' L L' h es hq he k
  unfold qc at hq;injection hq with hq;injection hq with h1 h2;injection h2 with h2 h3;injection h3 with h3 h4;subst h1;subst h2;subst h3;exact k
 | succ n ih =>
  intro m m' ds ds' L L' h es hq he k
  cases m with
  | op ops l =>
   unfold qc at hq
   split at hq
   ·split at hq
    ·rename_i hk
     rcases kp_ok hk with rfl | hk
     ·exact O_nil (pop_ok rfl (ih hq he k))
     ·exact O_sub hk (O_nil (pop_ok rfl (ih hq he k)))
    ·cases hq
   ·split at hq
    ·split at hq
     ·rename_i hv
      split at hq
      ·rename_i hr
       injection hq with hq;injection hq with h1 h2;injection h2 with h2 h3;injection h3 with h3 h4;subst h1;subst h2;subst h3;subst h4
       obtain ⟨e1,e2⟩:=eqs_app he
       exact O_y hs (qv_ok hv e1 (ih hr e2 k)) (qv_nd hv)
      ·cases hq
     ·cases hq
    ·rename_i t op _ _ _ g l0 j b
     split at hq
     ·rename_i d hd
      split at hq
      ·rename_i b' hb
       cases hbb:(b' == b) with
       | true =>
        rw [hbb] at hq
        simp only [cond_true] at hq
        split at hq
        ·rename_i hv
         split at hq
         ·rename_i hr
          injection hq with hq;injection hq with h1 h2;injection h2 with h2 h3;injection h3 with h3 h4;subst h1;subst h2;subst h3;subst h4
          obtain ⟨e1,e2⟩:=eqs_app he
          have hb2:b'=b:=by simpa using hbb
          exact O_yy d hs hd (hb2▸hb) (qv_ok hv e1 (ih hr e2 k)) (qv_nd hv)
         ·cases hq
        ·cases hq
       | false =>
        rw [hbb] at hq
        have hb2:b'=!b:=by cases b<;>cases b'<;>simp_all
        exact O_no d hd (hb2▸hb) (ih hq he k)
      ·cases hq
     ·cases hq
   ·cases hq
  | cd c =>
   unfold qc at hq
   split at hq
   ·exact T_seq (ih hq he k)
   ·rename_i l
    cases hd:dstsLt N l with
    | true=>rw [hd] at hq;exact T_region hd (ih hq he k)
    | false=>rw [hd] at hq;cases hq
   ·split at hq
    ·rename_i hv;exact T_condT hv (ih hq he k)
    ·rename_i hv;exact T_condF hv (ih hq he k)
    ·cases hq
   ·exact T_block (ih hq he k)
   ·exact T_skip (pop_ok rfl (ih hq he k))
   ·exact T_exit (pop_ok rfl (ih hq he k))
   ·cases hq
  | q e=>unfold qc at hq;cases hq
end
theorem Zx {x:Cx} {ops:Array Oper} {Q:Exit→Env→World→Prop} {D:List Deferred} {M L:List (Nat×Value)} {w:World} {I:Nat→Env→World→Prop} {m n:Nat} (ks:List Nat) (h:egets M ks=some L) (hI:I m ⟨D,L⟩ w) (hm:m<n:=by omega):O x ops (sqs x [] (lp I n Q)) [] ⟨D,M⟩ w :=
 O_nil ⟨m,hm,L,egets_sub h,hI⟩
def qa (F:Tq P) (H:List Res) (ops:Array Oper) (D:List Deferred):List Nat→List (Nat×Value)→List Nat→Option (List (Nat×Value)×List (Nat×Nat))
 | [],L,_=>some (L,[])
 | i::n,L,h=>match ops[i]? with
  | some ⟨some t,op,ty,pos,aft,g⟩=>(match gd ops ⟨some t,op,ty,pos,aft,g⟩ ⟨D,L⟩ with
   | some true=>(match qv F H ⟨D,L⟩ op h with
    | some (v,es,h)=>(match qa F H ops D n ((t,v)::L) h with
     | some (L,es')=>some (L,es++es')
     | none=>none)
    | none=>none)
   | some false=>qa F H ops D n ((t,undef)::L) h
   | none=>none)
  | _=>none
def qt (ops:Array Oper) (pre:List Nat):Array Bool→List Nat→Bool
 | _,[]=>true
 | li,i::n=>takeOk ops pre li i && qt ops pre (li.setIfInBounds i true) n
def qs (li:Array Bool):List Nat→Array Bool
 | []=>li
 | i::n=>qs (li.setIfInBounds i true) n
section
variable {N:Nat} {r:Option Nat} {ops:Array Oper} {pre:List Nat} {Q:Exit→Env→World→Prop} {D:List Deferred} {c:Ctx} {G:Ghost} {H:List Res} {w:World} {F:Tq P}
theorem qa_ok (hs:St c G H w):∀ {n:List Nat} {fu:Nat} {li:Array Bool} {L L':List (Nat×Value)} {h:List Nat} {es:List (Nat×Nat)},
  qa F H ops D n L h=some (L',es)→eqs es→qt ops pre li n=true→A ⟨P,N,r⟩ ops pre (St c G H) Q fu (qs li n) ⟨D,L'⟩ w→A ⟨P,N,r⟩ ops pre (St c G H) Q (fu+n.length) li ⟨D,L⟩ w:=by
 intro n
 induction n with
 | nil =>
  intro fu li L L' h es hq he ht k
  unfold qa at hq;injection hq with hq;injection hq with h1 h2;subst h1;exact k
 | cons i n ih =>
  intro fu li L L' h es hq he ht k
  unfold qt at ht
  rw [Bool.and_eq_true] at ht
  unfold qa at hq
  split at hq
  ·rename_i hi
   split at hq
   ·rename_i hg
    split at hq
    ·rename_i hv
     split at hq
     ·rename_i hr
      injection hq with hq;injection hq with h1 h2;subst h1;subst h2
      obtain ⟨e1,e2⟩:=eqs_app he
      exact A_take i hi ht.1 hg hs (qv_ok hv e1 (ih hr e2 ht.2 k))
     ·cases hq
    ·cases hq
   ·rename_i hg
    exact A_skip i hi ht.1 hg hs (ih hq he ht.2 k)
   ·cases hq
  ·cases hq
theorem qa_le (hs:St c G H w) {n:List Nat} {fu:Nat} {li:Array Bool} {L L':List (Nat×Value)} {h:List Nat} {es:List (Nat×Nat)}
  (hq:qa F H ops D n L h=some (L',es)) (he:eqs es) (ht:(qt ops pre li n && Nat.ble n.length fu)=true) (k:A ⟨P,N,r⟩ ops pre (St c G H) Q (fu-n.length) (qs li n) ⟨D,L'⟩ w):A ⟨P,N,r⟩ ops pre (St c G H) Q fu li ⟨D,L⟩ w:=by
 rw [Bool.and_eq_true] at ht
 have h2:n.length≤fu:=Nat.le_of_ble_eq_true ht.2
 have:=qa_ok hs (fu:=fu-n.length) hq he ht.1 k
 rwa [Nat.sub_add_cancel h2] at this
end
end Go.Ex
namespace Go.Proofs.YtkeplgdofphnkaaGreatDoor
open Go Go.Ex
theorem take_map_succ (l:List UInt8) (k:Nat) (h:k<l.length):(l.take (k+1)).map byteV=(l.take k).map byteV++[.int .u8 (l[k].toNat:Int)]:=by
 rw [List.take_add_one,List.getElem?_eq_getElem h,List.map_append];rfl
theorem foldl_take_succ {α β:Type} (f:β→α→β) (z:β) (l:List α) (k:Nat) (h:k<l.length):(l.take (k+1)).foldl f z=f ((l.take k).foldl f z) l[k]:=by
 rw [List.take_add_one,List.getElem?_eq_getElem h,List.foldl_append];rfl
structure OpV where
 kind:Int
 old:List UInt8
 new:List UInt8
def OpR (G:Ghost) (v:Value) (o:OpV):Prop:=∃ u1 u2,v=.agg #[.int .i64 o.kind,u1,u2]∧Bytes G u1 o.old∧Bytes G u2 o.new
def sizesF (k:Int):Option (Nat×Nat×Nat) :=
 if k=1∨k=2∨k=3∨k=4 then some (0,0,0)
 else if k=5∨k=6 then some (1,4,4)
 else if k=7 then some (1,8,0)
 else if k=8 then some (1,1,0) else none
def validO (o:OpV):Bool :=
 match sizesF o.kind with
 | none=>false
 | some (l,m,f)=>decide (l≤o.old.length∧o.old.length≤m∧o.new.length≤f)
theorem validO_t {o:OpV} {l m f:Nat} (h:sizesF o.kind=some (l,m,f)) (h2:l≤o.old.length∧o.old.length≤m∧o.new.length≤f):validO o=true:=by
 unfold validO;rw [h];simpa using h2
theorem validO_f {o:OpV} {l m f:Nat} (h:sizesF o.kind=some (l,m,f)) (h2:¬ (l≤o.old.length∧o.old.length≤m∧o.new.length≤f)):¬ validO o=true:=by
 unfold validO;rw [h];simpa using h2
theorem validO_n {o:OpV} (h:sizesF o.kind=none):¬ validO o=true:=by
 unfold validO;rw [h];simp
def szV (k:Int):Value :=
 match sizesF k with
 | none=>.tuple #[.int .i64 0,.int .i64 0,.int .i64 0,.bool false]
 | some (l,m,f)=>.tuple #[.int .i64 (l:Int),.int .i64 (m:Int),.int .i64 (f:Int),.bool true]
def tab64:List Nat:=[0,1,56,2,57,49,28,3,61,58,42,50,38,29,17,4,62,47,59,36,45,43,51,22,53,39,33,30,24,18,12,5,63,55,48,27,60,41,37,16,46,35,44,21,52,32,23,11,54,26,40,15,34,20,31,10,25,14,19,9,13,8,7,6]
def Tab (G:Ghost):Prop:=∀ i,i<64→gcell G ⟨0,i,none⟩=some (.int .u8 ((tab64.getD i 0:Nat):Int))
theorem Tab.mono {G G':Ghost} (h:G.le G') (ht:Tab G):Tab G':=fun i hi=>gcell_mono h (ht i hi)
theorem tab_le (i:Nat):tab64.getD i 0≤63:=by
 rcases Nat.lt_or_ge i 64 with h | h
 ·exact (by decide:∀ i<64,tab64.getD i 0≤63) i h
 ·rw [List.getD_eq_getElem?_getD,List.getElem?_eq_none (by exact h)];decide
def tzI (x:Nat):Nat:=mul64 (and64 x (sub64 0 x)) 285870213051353865 / 2 ^ 58
theorem tzI_lt (x:Nat):tzI x<64:=by
 unfold tzI mul64 W64;omega
def tzF (x:Nat):Nat:=if x=0 then 64 else tab64.getD (tzI x) 0
theorem tzF_le (x:Nat):tzF x≤64:=by
 unfold tzF;split
 ·omega
 ·have:=tab_le (tzI x);omega
def pop1 (x:Nat):Nat:=add64 (and64 (x / 2 ^ 1) 6148914691236517205) (and64 x 6148914691236517205)
def pop2 (x:Nat):Nat:=add64 (and64 (x / 2 ^ 2) 3689348814741910323) (and64 x 3689348814741910323)
def pop3 (x:Nat):Nat:=and64 (add64 (x / 2 ^ 4) x) 1085102592571150095
def popS (k x:Nat):Nat:=add64 x (x / 2 ^ k)
def pop6 (x:Nat):Nat:=popS 32 (popS 16 (popS 8 (pop3 (pop2 (pop1 x)))))
def popF (x:Nat):Nat:=and64 (pop6 x) 127
theorem and64_le (a b:Nat):and64 a b≤b:=Nat.le_trans Nat.and_le_right (Nat.mod_le _ _)
theorem pop6_lt (x:Nat):pop6 x<9223372036854775808:=by
 unfold pop6
 have h3:pop3 (pop2 (pop1 x))≤1085102592571150095:=and64_le _ _
 generalize pop3 (pop2 (pop1 x))=y at *
 have h4:popS 8 y≤y+y / 256:=Nat.mod_le _ _
 have h5:popS 16 (popS 8 y)≤popS 8 y+popS 8 y / 65536:=Nat.mod_le _ _
 have h6:popS 32 (popS 16 (popS 8 y))≤popS 16 (popS 8 y)+popS 16 (popS 8 y) / 4294967296:=Nat.mod_le _ _
 omega
theorem popF_le (x:Nat):popF x≤127:=and64_le _ _
theorem and127 (n:Nat):bitsI .and .i64 (n:Int) 127=((and64 n 127:Nat):Int):=by
 show IntKind.i64.wrap ((BitVec.ofInt 64 (n:Int) &&& BitVec.ofInt 64 ((127:Nat):Int)).toNat:Int)=_
 rw [BitVec.toNat_and,ofInt64,ofInt64]
 have h:=and64_le n 127
 unfold and64 at *
 rw [wrap64_eq Z53]
def sizeF (c:List Nat):Nat:=c.foldl (fun s w=>s+popF w) 0
theorem sizeF_snoc (c:List Nat) (k:Nat) (h:k<c.length):sizeF (c.take (k+1))=sizeF (c.take k)+popF c[k]:=by
 unfold sizeF;rw [List.take_add_one,List.getElem?_eq_getElem h,List.foldl_append];rfl
theorem sizeF_le:∀ (c:List Nat),sizeF c≤127*c.length:=by
 have key:∀ (c:List Nat) (s:Nat),c.foldl (fun s w=>s+popF w) s≤s+127*c.length:=by
  intro c
  induction c with
  | nil=>simp
  | cons w t ih=>intro s;have:=ih (s+popF w);have:=popF_le w;simp only [List.foldl_cons,List.length_cons];omega
 intro c;have:=key c 0;unfold sizeF;omega
def addF (c:List Nat) (x:UInt8):List Nat:=c.set (x.toNat / 64) (or64 (c.getD (x.toNat / 64) 0) (2 ^ (x.toNat % 64)))
theorem addF_len (c:List Nat) (x:UInt8):(addF c x).length=c.length:=by simp [addF]
def ofF (l:List UInt8):List Nat:=l.foldl addF [0,0,0,0]
theorem ofF_len (l:List UInt8):(ofF l).length=4:=by
 have key:∀ (l:List UInt8) (c:List Nat),(l.foldl addF c).length=c.length:=by
  intro l
  induction l with
  | nil=>simp
  | cons x t ih=>intro c;rw [List.foldl_cons,ih,addF_len]
 exact key l _
def notF (c:List Nat):List Nat:=List.zipWith (fun x _=>xor64 18446744073709551615 x) c c
def interF (a b:List Nat):List Nat:=List.zipWith and64 a b
def unionF (a b:List Nat):List Nat:=List.zipWith or64 a b
def hasF (c:List Nat) (x:UInt8):Bool:=decide (and64 (c.getD (x.toNat / 64) 0) (2 ^ (x.toNat % 64))≠0)
theorem map_at (c:List Nat) (k:Nat) (h:k<c.length):(c.map u64V)[k]?=some (u64V c[k]):=by
 rw [List.getElem?_map,List.getElem?_eq_getElem h];rfl
theorem zip_step (op:Nat→Nat→Nat) (a b:List Nat) (k:Nat) (h:k<a.length) (h2:k<b.length) (h3:k<4) :
  (((List.zipWith op a b).take k++List.replicate (4-k) 0).map u64V).set k (u64V (op a[k] b[k]))=((List.zipWith op a b).take (k+1)++List.replicate (4-(k+1)) 0).map u64V:=by
 obtain ⟨j,hj⟩:∃ j,4-k=j+1:=⟨4-k-1,by omega⟩
 have hl:((List.zipWith op a b).take k).length=k:=by rw [List.length_take,List.length_zipWith];omega
 rw [← List.map_set,List.set_append_right _ _ Z53,hl,Nat.sub_self,hj,show 4-(k+1)=j by omega,List.replicate_succ,List.set_cons_zero,List.take_add_one,List.getElem?_eq_getElem (by rw [List.length_zipWith];omega)]
 simp
theorem u8wrap (n:Nat):IntKind.u8.wrap (n:Int)=((UInt8.ofNat n).toNat:Int):=by
 rw [IntKind.wrap_u8];simp
theorem has_iff (c:List Nat) (x:UInt8):cmpP .neq ((and64 (c.getD (x.toNat / 64) 0) (2 ^ (x.toNat % 64)):Nat):Int) 0↔hasF c x=true:=by
 unfold hasF;rw [decide_eq_true_iff];show _≠_↔_;omega
theorem notF_len {c:List Nat} (h:c.length=4):(notF c).length=4:=by unfold notF;rw [List.length_zipWith];omega
theorem interF_len {a b:List Nat} (h:a.length=4) (h2:b.length=4):(interF a b).length=4:=by unfold interF;rw [List.length_zipWith];omega
theorem unionF_len {a b:List Nat} (h:a.length=4) (h2:b.length=4):(unionF a b).length=4:=by unfold unionF;rw [List.length_zipWith];omega
def memF (i:Nat):Nat→Nat→List UInt8
 | 0,_=>[]
 | f+1,w=>if w=0 then [] else UInt8.ofNat (64*i+tzF w)::memF i f (and64 w (sub64 w 1))
def bytesG:Nat→List Nat→List UInt8
 | _,[]=>[]
 | i,w::t=>memF i w w++bytesG (i+1) t
def bytesF (c:List Nat):List UInt8:=bytesG 0 c
theorem sub_one {w:Nat} (h0:w≠0) (h:w<W64):sub64 w 1=w-1:=by
 unfold sub64
 show (w+(W64-1 % W64)) % W64=w-1
 rw [show w+(W64 - 1 % W64)=(w - 1)+W64 by unfold W64 at *;omega,Nat.add_mod_right,Nat.mod_eq_of_lt Z53]
theorem clear_low {w j:Nat} (h0:w≠0) (hd:2 ^ j ∣ w):2 ^ (j+1) ∣ w &&& (w-1):=by
 rw [Nat.dvd_iff_mod_eq_zero,Nat.and_mod_two_pow]
 obtain ⟨m,rfl⟩:=hd
 have hp:0<2 ^ j:=Nat.pow_pos (by decide)
 rcases Nat.mod_two_eq_zero_or_one m with h | h
 ·obtain ⟨q,rfl⟩:∃ q,m=2*q:=⟨m / 2,by omega⟩
  rw [show 2 ^ j*(2*q)=2 ^ (j+1)*q by rw [Nat.pow_succ,Nat.mul_assoc],Nat.mul_mod_right,Nat.zero_and]
 ·obtain ⟨q,rfl⟩:∃ q,m=2*q+1:=⟨m / 2,by omega⟩
  have e1:2 ^ j*(2*q+1)=2 ^ (j+1)*q+2 ^ j:=by rw [Nat.mul_add,Nat.mul_one,Nat.pow_succ,Nat.mul_assoc]
  have e2:2 ^ j*(2*q+1)-1=2 ^ (j+1)*q+(2 ^ j-1):=by rw [e1];omega
  have hlt:2 ^ j<2 ^ (j+1):=by rw [Nat.pow_succ];omega
  rw [e2,e1,Nat.mul_add_mod,Nat.mul_add_mod,Nat.mod_eq_of_lt hlt,Nat.mod_eq_of_lt (by omega:2 ^ j-1<2 ^ (j+1)),Nat.and_two_pow_sub_one_eq_mod,Nat.mod_self]
theorem memF_len (i:Nat):∀ (f w j:Nat),w<W64→j≤64→2 ^ j ∣ w→(memF i f w).length≤64-j
 | 0,_,_,_,_,_=>by simp [memF]
 | f+1,w,j,hw,hj,hd=>by
  rw [memF]
  by_cases h0:w=0
  ·rw [if_pos h0];simp
  ·rw [if_neg h0,List.length_cons]
   have hj2:j≠64:=fun h=>by
    subst h
    have:=Nat.le_of_dvd (Nat.pos_of_ne_zero h0) hd
    unfold W64 at hw;omega
   have e:and64 w (sub64 w 1)=w &&& (w-1):=by
    rw [sub_one h0 hw];unfold and64;rw [Nat.mod_eq_of_lt hw,Nat.mod_eq_of_lt Z53]
   have:=memF_len i f (and64 w (sub64 w 1)) (j+1) (and64_lt _ _) Z53 (by rw [e];exact clear_low h0 hd)
   omega
theorem bytesG_len:∀ (c:List Nat) (i:Nat),(∀ w∈c,w<W64)→(bytesG i c).length≤64*c.length
 | [],_,_=>by simp [bytesG]
 | w::t,i,h=>by
  have h1:=memF_len i w w 0 (h w Z54) Z53 Z54
  have h2:=bytesG_len t (i+1) fun x hx=>h x (by simp [hx])
  simp only [bytesG,List.length_append,List.length_cons];omega
theorem bytesF_len {c:List Nat} (h:c.length=4) (hw:∀ w∈c,w<W64):(bytesF c).length≤256:=by
 have:=bytesG_len c 0 hw;unfold bytesF;omega
theorem mem_step {L rest:List UInt8} {n:Nat} {a:UInt8} (h:L.drop n=a::rest):∃ hn:n<L.length,L[n]=a∧L.drop (n+1)=rest:=by
 have hn:n<L.length:=by
  rcases Nat.lt_or_ge n L.length with h' | h'
  ·exact h'
  ·rw [List.drop_eq_nil_of_le h'] at h;cases h
 rw [List.drop_eq_getElem_cons hn] at h
 injection h with h1 h2
 exact ⟨hn,h1,h2⟩
def ClsAt (G:Ghost) (b:Nat) (c:List Nat):Prop:=∀ (i:Nat) (v:Value),(c.map u64V)[i]?=some v→gcell G ⟨b,i,none⟩=some v
theorem ClsAt.mono {G G':Ghost} (h:G.le G') {b:Nat} {c:List Nat} (hc:ClsAt G b c):ClsAt G' b c:=fun i v hv=>gcell_mono h (hc i v hv)
theorem ClsAt.whole {G:Ghost} {b:Nat} {c:List Nat} (hc:ClsAt G b c):∀ (j:Nat) (u:Value),(c.map u64V)[j]?=some u→gcell G ((⟨b,0,none⟩:Addr).add j)=some u:=fun j u hj=>by
 have hadd:((⟨b,0,none⟩:Addr).add j)=⟨b,j,none⟩:=by
  unfold Addr.add;split
  ·rename_i h0;simp [h0]
  ·simp
 rw [hadd];exact hc j u hj
theorem memF_zero (i f:Nat):memF i f 0=[]:=by cases f<;>simp [memF]
structure Dfa where
 cls:List (List Nat)
 next:List (List Nat)
 acc:List Bool
structure Tb where
 cell:List Nat
 cells:Nat
 next:List (List Nat)
 acc:List Bool
def Tb.to (t:Tb) (s c:Nat):Nat:=(t.next.getD s []).getD c 0
abbrev Rch:=List Bool×List Nat
def rchP (st:Rch) (x:Nat):Rch:=if st.1.getD x false=true then st else (st.1.set x true,st.2++[x])
def rchG (t:Tb):Nat→Nat→Rch→Option (List Nat)
 | 0,_,_=>none
 | f+1,i,st=>if i<st.2.length then rchG t f (i+1) ((t.next.getD (st.2.getD i 0) []).foldl rchP st) else some st.2
def reachF (t:Tb):Option (List Nat):=rchG t (t.next.length+1) 0 ((List.replicate t.next.length false).set 0 true,[0])
def two (x:Nat):List UInt8:=[UInt8.ofNat x,UInt8.ofNat (x / 256)]
def keyF (t:Tb) (b:List Nat) (s:Nat):List UInt8:=two (b.getD s 0)++(t.next.getD s []).flatMap fun x=>two (b.getD x 0)
structure Rf where
 keys:List (List UInt8)
 next:List Nat
 reps:List Nat
def rfP (t:Tb) (b:List Nat) (st:Rf) (s:Nat):Rf :=
 let k:=keyF t b s
 let i:=posK k st.keys
 if i<st.keys.length then ⟨st.keys,st.next.set s i,st.reps⟩ else ⟨st.keys++[k],st.next.set s st.reps.length,st.reps++[s]⟩
def rfR (t:Tb) (l b:List Nat):Rf:=l.foldl (rfP t b) ⟨[],List.replicate b.length 0,[]⟩
def rfG (t:Tb) (l:List Nat):Nat→List Nat→Nat→Option (List Nat×List Nat)
 | 0,_,_=>none
 | f+1,b,c=>let r:=rfR t l b;if r.reps.length=c then some (r.next,r.reps) else rfG t l f r.next r.reps.length
def rfB (t:Tb) (l:List Nat):List Nat:=l.foldl (fun b s=>if t.acc.getD s false=true then b.set s 1 else b) (List.replicate t.next.length 0)
def refineF (t:Tb) (l:List Nat):Option (List Nat×List Nat):=rfG t l 100 (rfB t l) 0
structure Mg where
 keys:List (List UInt8)
 cells:List Nat
 cls:List (List Nat)
 of:List Int
def mgK (t:Tb) (b r:List Nat) (c:Nat):List UInt8:=r.flatMap fun s=>two (b.getD (t.to s c) 0)
def mgN (t:Tb) (b r:List Nat) (st:Mg) (c:Nat):Mg :=
 let k:=mgK t b r c
 let i:=posK k st.keys
 if i<st.keys.length then { st with of:=st.of.set c (i:Int) } else ⟨st.keys++[k],st.cells++[c],st.cls++[[0,0,0,0]],st.of.set c (st.cells.length:Int)⟩
def mgP (t:Tb) (b r:List Nat) (st:Mg) (x:Nat):Mg :=
 let c:=t.cell.getD x 0
 let st:=if st.of.getD c 0<0 then mgN t b r st c else st
 let i:=(st.of.getD c 0).toNat
 { st with cls:=st.cls.set i (unionF (st.cls.getD i []) (ofF [UInt8.ofNat x])) }
def mergeF (t:Tb) (b r:List Nat):Mg:=(List.range 256).foldl (mgP t b r) ⟨[],[],[],List.replicate t.cells (-1)⟩
structure Cn where
 place:List Int
 order:List Nat
 row:List Nat
def cnP (t:Tb) (b:List Nat) (s:Nat) (st:Cn) (c:Nat):Cn :=
 let x:=b.getD (t.to s c) 0
 let st:=if st.place.getD x 0<0 then { st with place:=st.place.set x (st.order.length:Int),order:=st.order++[x] } else st
 { st with row:=st.row++[(st.place.getD x 0).toNat] }
def cnG (t:Tb) (b r cells:List Nat):Nat→Nat→List Int→List Nat→List (List Nat)→List Bool→Option (List (List Nat)×List Bool)
 | 0,_,_,_,_,_=>none
 | f+1,i,pl,od,nx,ac =>
  if i<od.length then
   let s:=r.getD (od.getD i 0) 0
   let st:=cells.foldl (cnP t b s) ⟨pl,od,[]⟩
   cnG t b r cells f (i+1) st.place st.order (nx++[st.row]) (ac++[t.acc.getD s false])
  else some (nx,ac)
def canonF (t:Tb):Option Dfa :=
 match reachF t with
 | none=>none
 | some l=>match refineF t l with
  | none=>none
  | some (b,r) =>
   let m:=mergeF t b r
   match cnG t b r m.cells (r.length+1) 0 ((List.replicate r.length (-1)).set (b.getD 0 0) 0) [b.getD 0 0] [] [] with
   | none=>none
   | some (nx,ac)=>some ⟨m.cls,nx,ac⟩
def tabF (d:Dfa):Tb:=⟨(d.cls.zipIdx).foldl (fun cell ci=>(bytesF ci.1).foldl (fun cell b=>cell.set b.toNat ci.2) cell) (List.replicate 256 0),d.cls.length,d.next,d.acc⟩
def clsOk:List (List Nat)→List Nat→Bool
 | [],seen=>decide (notF seen=[0,0,0,0])
 | c::l,seen=>!(decide (c=[0,0,0,0])) && (decide (interF seen c=[0,0,0,0]) && clsOk l (unionF seen c))
def validD (d:Dfa):Bool :=
 decide (1≤d.next.length) && (decide (d.next.length≤64) && (decide (d.acc.length=d.next.length) && (decide (1≤d.cls.length) && (decide (d.cls.length≤256) && (clsOk d.cls [0,0,0,0] && d.next.all fun r=>decide (r.length=d.cls.length) && r.all fun x=>decide (x<d.next.length))))))
structure Jn where
 keys:List (Nat×Nat)
 cell:List Nat
 bytes:List Nat
def jnP (a b:Tb) (st:Jn) (x:Nat):Jn :=
 let k:=(a.cell.getD x 0,b.cell.getD x 0)
 let i:=posK k st.keys
 if i<st.keys.length then { st with cell:=st.cell++[i] } else ⟨st.keys++[k],st.cell++[st.bytes.length],st.bytes++[x]⟩
def jointF (a b:Tb):Jn:=(List.range 256).foldl (jnP a b) ⟨[],[],[]⟩
structure Cs where
 p:Nat
 q:Nat
 s:Nat
deriving DecidableEq
structure Ex where
 l:List Cs
 row:List Nat
def exP (nx:Cs→Nat→Cs) (most:Nat) (s:Cs) (st:Option Ex) (b:Nat):Option Ex :=
 match st with
 | none=>none
 | some st =>
  let to:=nx s b
  let i:=posK to st.l
  if i<st.l.length then some { st with row:=st.row++[i] } else if st.l.length=most then none else some ⟨st.l++[to],st.row++[st.l.length]⟩
def exG (bytes:List Nat) (nx:Cs→Nat→Cs) (ac:Cs→Bool) (most:Nat):Nat→Nat→List Cs→List (List Nat)→List Bool→Option (Option (List (List Nat)×List Bool))
 | 0,_,_,_,_=>none
 | f+1,i,l,next,acc =>
  match l[i]? with
  | none=>some (some (next,acc))
  | some s=>match bytes.foldl (exP nx most s) (some ⟨l,[]⟩) with
   | none=>some none
   | some st=>exG bytes nx ac most f (i+1) st.l (next++[st.row]) (acc++[ac s])
def targF (t:Tb) (s b:Nat):Nat:=(List.range t.next.length).foldl (fun out q=>if and64 (s / 2 ^ q) 1=1 then or64 out (2 ^ (t.to q (t.cell.getD b 0))) else out) 0
def someF (t:Tb) (s:Nat):Bool:=(t.acc.zipIdx).any fun p=>p.1 && decide (and64 (s / 2 ^ p.2) 1=1)
def enterF (x:Tb) (s:Cs):Cs:=if x.acc.getD s.p false=true then { s with s:=or64 s.s 1 } else s
def emptyT:Tb:=⟨List.range 256,256,[List.replicate 256 1,List.replicate 256 1],[true,false]⟩
structure NodeV where
 kind:Int
 c:List Nat
 l:Int
 r:Int
 mn:Int
 mx:Int
deriving DecidableEq
def nodeC (n:NodeV):List Value:=.int .i64 n.kind::n.c.map u64V++[.int .i64 n.l,.int .i64 n.r,.int .i64 n.mn,.int .i64 n.mx]
def ClsOk (c:List Nat):Prop:=c.length=4∧∀ x∈c,x<W64
def NodeR (_:Ghost) (cs:List Value) (n:NodeV):Prop:=cs=nodeC n∧ClsOk n.c
def Rx (G:Ghost) (v:Value) (l:List NodeV):Prop:=LstR 9 NodeR G v l
theorem Rx.mono {G G':Ghost} (h:G.le G') {v:Value} {l:List NodeV} (hl:Rx G v l):Rx G' v l:=LstR.mono (R:=NodeR) (G:=G) (G':=G') (fun _ _ h=>h) h hl
def arF (k:Int):Nat:=if k=4∨k=5∨k=6 then 2 else if k=7∨k=8 then 1 else 0
def noC:List Nat:=[0,0,0,0]
theorem four_of {c:List Nat} (h:c.length=4):∃ a b d e,c=[a,b,d,e]:=by
 match c,h with
 | [a,b,d,e],_=>exact ⟨a,b,d,e,rfl⟩
def opsOk (n:NodeV) (i:Int):Prop:=(if 0<arF n.kind then 0≤n.l∧n.l<i else n.l=0)∧(if 1<arF n.kind then 0≤n.r∧n.r<i else n.r=0)
instance (n:NodeV) (i:Int):Decidable (opsOk n i):=by unfold opsOk;infer_instance
def nodeE (n:NodeV) (i:Int):Int :=
 if n.kind<1∨8<n.kind then 1
 else if ¬ opsOk n i then 1
 else if n.kind≠3∧n.c≠noC then 1
 else if n.kind≠8 then (if n.mn≠0∨n.mx≠0 then 1 else 0)
 else if n.mn<0∨n.mx < -1 then 1
 else if 16<n.mn∨16<n.mx then 2
 else if n.mx≠-1∧n.mx<n.mn then 1 else 0
def errF:Nat→List NodeV→Int
 | _,[]=>0
 | i,n::t=>if nodeE n i=0 then errF (i+1) t else nodeE n i
def stepC (cs:List Nat) (n:NodeV):List Nat :=
 if 1<arF n.kind then (cs.modify n.l.toNat (·+1)).modify n.r.toNat (·+1)
 else if 0<arF n.kind then cs.modify n.l.toNat (·+1) else cs
def cntF (l:List NodeV):List Nat:=l.foldl stepC (List.replicate l.length 0)
def onesF (cs:List Nat) (m:Nat):Bool:=(cs.take m).all (· == 1)
def validF (l:List NodeV):Int :=
 if 200<l.length then 2 else if l.length=0 then 1 else if errF 0 l=0 then (if onesF (cntF l) (l.length-1)=true then 0 else 1) else errF 0 l
theorem arF_2 {k:Int} (h:k=4∨k=5∨k=6):arF k=2:=if_pos h
theorem arF_1 {k:Int} (h:k=7∨k=8):arF k=1:=by unfold arF;rw [if_neg Z53,if_pos h]
theorem arF_0 {k:Int} (h:¬ (k=4∨k=5∨k=6)) (h2:¬ (k=7∨k=8)):arF k=0:=by unfold arF;rw [if_neg h,if_neg h2]
theorem nodeE_ops {n:NodeV} {i:Int} (h:nodeE n i=0):opsOk n i:=by
 unfold nodeE at h
 split at h
 ·cases h
 ·split at h
  ·cases h
  ·rename_i h2;exact Classical.not_not.1 h2
theorem ops_l {n:NodeV} {i:Int} (h:opsOk n i) (ha:0<arF n.kind):0≤n.l∧n.l<i:=by have:=h.1;rwa [if_pos ha] at this
theorem ops_r {n:NodeV} {i:Int} (h:opsOk n i) (ha:1<arF n.kind):0≤n.r∧n.r<i:=by have:=h.2;rwa [if_pos ha] at this
theorem stepC_len (cs:List Nat) (n:NodeV):(stepC cs n).length=cs.length:=by unfold stepC;split<;>(try split)<;>simp
theorem mod_le {cs:List Nat} {i b:Nat} (h:∀ x∈cs,x≤b):∀ x∈cs.modify i (·+1),x≤b+1:=by
 intro x hx
 obtain ⟨j,hj,hx⟩:=List.getElem_of_mem hx
 rw [List.getElem_modify] at hx
 have:=h (cs[j]'(by simpa using hj)) (List.getElem_mem _)
 split at hx<;>omega
theorem stepC_le {cs:List Nat} {n:NodeV} {b:Nat} (h:∀ x∈cs,x≤b):∀ x∈stepC cs n,x≤b+2:=by
 unfold stepC;split
 ·exact mod_le (mod_le h)
 ·split
  ·intro x hx;have:=mod_le h x hx;omega
  ·intro x hx;have:=h x hx;omega
abbrev natW (n:Nat):Value:=.int .i64 (n:Int)
theorem set_mod {cs:List Nat} {i:Nat} (h:i<cs.length):(cs.map natW).set i (.int .i64 ((cs[i]+1:Nat):Int))=(cs.modify i (·+1)).map natW:=by
 apply List.ext_getElem
 ·simp
 ·intro j h1 h2
  rw [List.getElem_set,List.getElem_map,List.getElem_map,List.getElem_modify]
  split
  ·rename_i h3;subst h3;rfl
  ·rfl
theorem ints_nat {G:Ghost} {v:Value} {n:Nat} {cs:List Nat} (h:Sl G v 1 n (cs.map natW)) (hn:n=cs.length):Ints G v (cs.map fun n:Nat=>(n:Int)):=by
 subst hn
 show Sl G v 1 (cs.map fun n:Nat=>(n:Int)).length ((cs.map fun n:Nat=>(n:Int)).map (.int .i64))
 rw [List.length_map,List.map_map];exact h
theorem errF_step {l:List NodeV} {k:Nat} (h:k<l.length) (h0:nodeE l[k] k=0):errF k (l.drop k)=errF (k+1) (l.drop (k+1)):=by
 rw [List.drop_eq_getElem_cons h,errF,if_pos h0]
theorem errF_bad {l:List NodeV} {k:Nat} (h:k<l.length) (h0:¬ nodeE l[k] k=0):errF k (l.drop k)=nodeE l[k] k:=by
 rw [List.drop_eq_getElem_cons h,errF,if_neg h0]
theorem ones_all {cs:List Nat} {m:Nat} (h:∀ i,i<m→cs.getD i 0=1):onesF cs m=true:=by
 unfold onesF
 rw [List.all_eq_true]
 intro x hx
 obtain ⟨j,hj,rfl⟩:=List.getElem_of_mem hx
 rw [List.length_take] at hj
 have:=h j Z53
 rw [List.getD_eq_getElem?_getD,List.getElem?_eq_getElem Z53] at this
 simpa using this
theorem ones_not {cs:List Nat} {m i:Nat} (hi:i<m) (hl:i<cs.length) (h:¬ cs[i]=1):onesF cs m=false:=by
 unfold onesF
 rw [List.all_eq_false]
 exact ⟨cs[i],List.mem_of_getElem? (i:=i) (by rw [List.getElem?_take_of_lt hi,List.getElem?_eq_getElem hl]),by simpa using h⟩
theorem valid_big {l:List NodeV} (h:200<l.length):validF l=2:=if_pos h
theorem valid_nil {l:List NodeV} (h:l.length=0):validF l=1:=by unfold validF;rw [if_neg Z53,if_pos h]
theorem valid_err {l:List NodeV} (h1:¬ 200<l.length) (h2:¬ l.length=0) (h:¬ errF 0 l=0):validF l=errF 0 l:=by unfold validF;rw [if_neg h1,if_neg h2,if_neg h]
theorem valid_cnt {l:List NodeV} (h1:¬ 200<l.length) (h2:¬ l.length=0) (h:errF 0 l=0):validF l=if onesF (cntF l) (l.length-1)=true then 0 else 1:=by unfold validF;rw [if_neg h1,if_neg h2,if_pos h]
structure RuleM where
 base:Int
 digits:Int
 top:Int
 over:Int
 zeros:Bool
deriving DecidableEq
structure PartM where
 r:List NodeV
 lz:Bool
deriving DecidableEq
structure CondM where
 kind:Int
 neg:Bool
 x:Int
 y:Int
 n:Int
 k:Int
 r:List NodeV
deriving DecidableEq
deriving instance DecidableEq for OpV
structure StmtM where
 kind:Int
 x:Int
 y:Int
 z:Int
 n:Int
 i:Int
 j:Int
 b:List UInt8
 last:Bool
 op:OpV
 c0:Nat
 c1:Nat
 c2:Nat
 c3:Nat
 rule:RuleM
 p:List PartM
 ys:List Int
 cond:CondM
 name:List UInt8
 thn:Int
 els:Int
deriving DecidableEq
structure ProgM where
 stmts:List StmtM
 blocks:List (List Nat)
deriving DecidableEq
def strV (s:List UInt8):Value:=.string ⟨s.toArray⟩
abbrev iV (z:Int):Value:=.int .i64 z
def PartR (G:Ghost) (cs:List Value) (p:PartM):Prop:=∃ v,cs=[v,.bool p.lz]∧Rx G v p.r
def Pat (G:Ghost) (v:Value) (l:List PartM):Prop:=LstR 2 PartR G v l
theorem PartR.mono {G G':Ghost} (h:G.le G') {cs:List Value} {p:PartM} (hp:PartR G cs p):PartR G' cs p:=by
 obtain ⟨v,e,hv⟩:=hp
 exact ⟨v,e,hv.mono h⟩
theorem Pat.mono {G G':Ghost} (h:G.le G') {v:Value} {l:List PartM} (hl:Pat G v l):Pat G' v l:=LstR.mono (fun _ _ hp=>hp.mono h) h hl
def stmC (s:StmtM) (vb vo vn vp vy vr:Value):List Value :=
 [iV s.kind,iV s.x,iV s.y,iV s.z,iV s.n,iV s.i,iV s.j,vb,.bool s.last,iV s.op.kind,vo,vn,u64V s.c0,u64V s.c1,u64V s.c2,u64V s.c3,
  iV s.rule.base,iV s.rule.digits,iV s.rule.top,iV s.rule.over,.bool s.rule.zeros,vp,vy,
  iV s.cond.kind,.bool s.cond.neg,iV s.cond.x,iV s.cond.y,iV s.cond.n,iV s.cond.k,vr,strV s.name,iV s.thn,iV s.els]
structure StmR (G:Ghost) (cs:List Value) (s:StmtM):Prop where
 ex:∃ vb vo vn vp vy vr,cs=stmC s vb vo vn vp vy vr∧Bytes G vb s.b∧Bytes G vo s.op.old∧Bytes G vn s.op.new∧Pat G vp s.p∧Ints G vy s.ys∧Rx G vr s.cond.r
 w:s.c0<W64∧s.c1<W64∧s.c2<W64∧s.c3<W64
theorem StmR.mono {G G':Ghost} (h:G.le G') {cs:List Value} {s:StmtM} (hs:StmR G cs s):StmR G' cs s:=by
 obtain ⟨⟨vb,vo,vn,vp,vy,vr,e,h1,h2,h3,h4,h5,h6⟩,hw⟩:=hs
 exact ⟨⟨vb,vo,vn,vp,vy,vr,e,h1.mono h,h2.mono h,h3.mono h,h4.mono h,h5.mono h,h6.mono h⟩,hw⟩
def Stms (G:Ghost) (v:Value) (l:List StmtM):Prop:=LstR 33 StmR G v l
theorem Stms.mono {G G':Ghost} (h:G.le G') {v:Value} {l:List StmtM} (hl:Stms G v l):Stms G' v l:=LstR.mono (fun _ _ hp=>hp.mono h) h hl
def hasElseF (k:Int):Bool:=decide (k=3∨k=5∨k=6∨k=8∨k=9∨k=10)
def inF (n lo hi:Int):Bool:=decide (lo≤n∧n≤hi)
def srcF (x:Int):Bool:=inF x 0 11
def tgtG:List Int→List Int→Bool
 | _,[]=>true
 | seen,x::l=>inF x 1 11 && (!(seen.contains x) && tgtG (seen++[x]) l)
def tgtF (l:List Int):Bool:=tgtG [] l
def ruleF (r:RuleM):Int :=
 if ¬ (r.base=10∨r.base=16)∨r.digits<1∨6<r.digits∨r.top<1∨50<r.top∨r.over<0∨2<r.over then 1 else 0
def starX (c:List Nat):List NodeV:=[⟨3,c,0,0,0,0⟩,⟨8,noC,0,0,0,-1⟩]
def clA:List Nat:=ofF [97]
def clB:List Nat:=ofF [98]
def clAB:List Nat:=addF clA 98
def RxSm (x:List NodeV):Prop:=x=starX clA∨x=starX clB∨x=starX clAB
instance (x:List NodeV):Decidable (RxSm x):=by unfold RxSm;infer_instance
def StmSm (s:StmtM):Prop:=(s.kind=9→s.p.length≤6∧s.p≠[]∧∀ p∈s.p,RxSm p.r)∧(s.kind=10→s.cond.kind=1→RxSm s.cond.r)
instance (s:StmtM):Decidable (StmSm s):=by unfold StmSm;infer_instance
structure TreeM where
 blocks:List Bool
 stmts:List Bool
 todo:List Nat
def visitF (seen:List Bool) (i:Int):Option (List Bool) :=
 if i<0∨(seen.length:Int)≤i∨seen.getD i.toNat false=true then none else some (seen.set i.toNat true)
def nextF (t:Option TreeM) (x:Int):Option TreeM :=
 match t with
 | none=>none
 | some t=>if x=-1 then some t else match visitF t.blocks x with
  | none=>none
  | some b=>some ⟨b,t.stmts,t.todo++[x.toNat]⟩
def stmtT (p:ProgM) (t:Option TreeM) (i:Nat):Option TreeM :=
 match t with
 | none=>none
 | some t=>match visitF t.stmts i with
  | none=>none
  | some s=>match p.stmts[i]? with
   | none=>none
   | some st=>nextF (nextF (some ⟨t.blocks,s,t.todo⟩) st.thn) st.els
def treeG (p:ProgM):Nat→TreeM→Option (Option TreeM)
 | 0,_=>none
 | f+1,t =>
  match t.todo with
  | []=>some (some t)
  | b::rest=>match (p.blocks.getD b []).foldl (stmtT p) (some ⟨t.blocks,t.stmts,rest⟩) with
   | none=>some none
   | some t=>treeG p f t
def treeF (p:ProgM):Option Bool :=
 match treeG p (p.blocks.length+1) ⟨(List.replicate p.blocks.length false).set 0 true,List.replicate p.stmts.length false,[0]⟩ with
 | none=>none
 | some none=>some false
 | some (some t)=>some (!(t.blocks.contains false) && !(t.stmts.contains false))
def noVs:List Bool:=List.replicate 16 false
def ofVs (l m:List Int):List Bool:=m.foldl (fun v n=>v.set (12+n.toNat) true) (l.foldl (fun v x=>v.set x.toNat true) noVs)
def andVs (v w:List Bool):List Bool:=List.zipWith (· && ·) v w
def orVs (v w:List Bool):List Bool:=List.zipWith (· || ·) v w
def readsF (s:StmtM):List Bool :=
 if s.kind=5 then ofVs [s.x] [s.n]
 else if s.kind=10 then (if s.cond.kind=4 then ofVs [] [s.cond.n] else if s.cond.kind=2 then ofVs [s.cond.x,s.cond.y] [] else ofVs [s.cond.x] [])
 else if s.kind=2∨s.kind=11∨s.kind=12∨s.kind=14∨s.kind=15 then noVs else ofVs [s.x] []
def setsF (s:StmtM):List Bool×Bool :=
 if s.kind=8 then (ofVs [] [s.n],true)
 else if s.kind=9 then (ofVs s.ys [],true)
 else
  let v:=if s.kind=3∨s.kind=5 then noVs.set s.z.toNat true else noVs
  let v:=if s.kind=3∨s.kind=5∨s.kind=1∨s.kind=2∨s.kind=4∨s.kind=6∨s.kind=7 then v.set s.y.toNat true else v
  (v,decide (s.kind=3∨s.kind=5∨(s.kind=6∧s.op.kind=3)))
structure PlM where
 live:Bool
 set:List Bool
def joinPl (a b:PlM):PlM:=if a.live=false then b else if b.live=false then a else ⟨true,andVs a.set b.set⟩
end Go.Proofs.YtkeplgdofphnkaaGreatDoor
namespace Go.Proofs.YtkeplgdofphnkaaGreatDoor
open Go Go.Ex Go.RowKit Go.Proofs.Tryz
instance C10:Ic prog 10 Tryz.f10:=⟨func10,rfl,kR⟩
instance C100:Ic prog 100 Tryz.f100:=⟨func100,rfl,kR⟩
instance C101:Ic prog 101 Tryz.f101:=⟨func101,rfl,kR⟩
instance C102:Ic prog 102 Tryz.f102:=⟨func102,rfl,kR⟩
instance C103:Ic prog 103 Tryz.f103:=⟨func103,rfl,kR⟩
instance C104:Ic prog 104 Tryz.f104:=⟨func104,rfl,kR⟩
instance C108:Ic prog 108 Tryz.f108:=⟨func108,rfl,kR⟩
instance C11:Ic prog 11 Tryz.f11:=⟨func11,rfl,kR⟩
instance C114:Ic prog 114 Tryz.f114:=⟨func114,rfl,kR⟩
instance C118:Ic prog 118 Tryz.f118:=⟨func118,rfl,kR⟩
instance C119:Ic prog 119 Tryz.f119:=⟨func119,rfl,kR⟩
instance C12:Ic prog 12 Tryz.f12:=⟨func12,rfl,kR⟩
instance C127:Ic prog 127 Tryz.f127:=⟨func127,rfl,kR⟩
instance C128:Ic prog 128 Tryz.f128:=⟨func128,rfl,kR⟩
instance C129:Ic prog 129 Tryz.f129:=⟨func129,rfl,kR⟩
instance C13:Ic prog 13 Tryz.f13:=⟨func13,rfl,kR⟩
instance C130:Ic prog 130 Tryz.f130:=⟨func130,rfl,kR⟩
instance C131:Ic prog 131 Tryz.f131:=⟨func131,rfl,kR⟩
instance C132:Ic prog 132 Tryz.f132:=⟨func132,rfl,kR⟩
instance C133:Ic prog 133 Tryz.f133:=⟨func133,rfl,kR⟩
instance C134:Ic prog 134 Tryz.f134:=⟨func134,rfl,kR⟩
instance C136:Ic prog 136 Tryz.f136:=⟨func136,rfl,kR⟩
instance C137:Ic prog 137 Tryz.f137:=⟨func137,rfl,kR⟩
instance C138:Ic prog 138 Tryz.f138:=⟨func138,rfl,kR⟩
instance C139:Ic prog 139 Tryz.f139:=⟨func139,rfl,kR⟩
instance C140:Ic prog 140 Tryz.f140:=⟨func140,rfl,kR⟩
instance C15:Ic prog 15 Tryz.f15:=⟨func15,rfl,kR⟩
instance C153:Ic prog 153 Tryz.f153:=⟨func153,rfl,kR⟩
instance C154:Ic prog 154 Tryz.f154:=⟨func154,rfl,kR⟩
instance C155:Ic prog 155 Tryz.f155:=⟨func155,rfl,kR⟩
instance C156:Ic prog 156 Tryz.f156:=⟨func156,rfl,kR⟩
instance C157:Ic prog 157 Tryz.f157:=⟨func157,rfl,kR⟩
instance C158:Ic prog 158 Tryz.f158:=⟨func158,rfl,kR⟩
instance C159:Ic prog 159 Tryz.f159:=⟨func159,rfl,kR⟩
instance C160:Ic prog 160 Tryz.f160:=⟨func160,rfl,kR⟩
instance C161:Ic prog 161 Tryz.f161:=⟨func161,rfl,kR⟩
instance C162:Ic prog 162 Tryz.f162:=⟨func162,rfl,kR⟩
instance C168:Ic prog 168 Tryz.f168:=⟨func168,rfl,kR⟩
instance C17:Ic prog 17 Tryz.f17:=⟨func17,rfl,kR⟩
instance C19:Ic prog 19 Tryz.f19:=⟨func19,rfl,kR⟩
instance C191:Ic prog 191 Tryz.f191:=⟨func191,rfl,kR⟩
instance C192:Ic prog 192 Tryz.f192:=⟨func192,rfl,kR⟩
instance C193:Ic prog 193 Tryz.f193:=⟨func193,rfl,kR⟩
instance C194:Ic prog 194 Tryz.f194:=⟨func194,rfl,kR⟩
instance C195:Ic prog 195 Tryz.f195:=⟨func195,rfl,kR⟩
instance C196:Ic prog 196 Tryz.f196:=⟨func196,rfl,kR⟩
instance C197:Ic prog 197 Tryz.f197:=⟨func197,rfl,kR⟩
instance C198:Ic prog 198 Tryz.f198:=⟨func198,rfl,kR⟩
instance C199:Ic prog 199 Tryz.f199:=⟨func199,rfl,kR⟩
instance C200:Ic prog 200 Tryz.f200:=⟨func200,rfl,kR⟩
instance C201:Ic prog 201 Tryz.f201:=⟨func201,rfl,kR⟩
instance C205:Ic prog 205 Tryz.f205:=⟨func205,rfl,kR⟩
instance C21:Ic prog 21 Tryz.f21:=⟨func21,rfl,kR⟩
instance C210:Ic prog 210 Tryz.f210:=⟨func210,rfl,kR⟩
instance C211:Ic prog 211 Tryz.f211:=⟨func211,rfl,kR⟩
instance C212:Ic prog 212 Tryz.f212:=⟨func212,rfl,kR⟩
instance C214:Ic prog 214 Tryz.f214:=⟨func214,rfl,kR⟩
instance C215:Ic prog 215 Tryz.f215:=⟨func215,rfl,kR⟩
instance C216:Ic prog 216 Tryz.f216:=⟨func216,rfl,kR⟩
instance C22:Ic prog 22 Tryz.f22:=⟨func22,rfl,kR⟩
instance C220:Ic prog 220 Tryz.f220:=⟨func220,rfl,kR⟩
instance C23:Ic prog 23 Tryz.f23:=⟨func23,rfl,kR⟩
instance C232:Ic prog 232 Tryz.f232:=⟨func232,rfl,kR⟩
instance C233:Ic prog 233 Tryz.f233:=⟨func233,rfl,kR⟩
instance C234:Ic prog 234 Tryz.f234:=⟨func234,rfl,kR⟩
instance C235:Ic prog 235 Tryz.f235:=⟨func235,rfl,kR⟩
instance C236:Ic prog 236 Tryz.f236:=⟨func236,rfl,kR⟩
instance C237:Ic prog 237 Tryz.f237:=⟨func237,rfl,kR⟩
instance C238:Ic prog 238 Tryz.f238:=⟨func238,rfl,kR⟩
instance C239:Ic prog 239 Tryz.f239:=⟨func239,rfl,kR⟩
instance C240:Ic prog 240 Tryz.f240:=⟨func240,rfl,kR⟩
instance C241:Ic prog 241 Tryz.f241:=⟨func241,rfl,kR⟩
instance C242:Ic prog 242 Tryz.f242:=⟨func242,rfl,kR⟩
instance C243:Ic prog 243 Tryz.f243:=⟨func243,rfl,kR⟩
instance C244:Ic prog 244 Tryz.f244:=⟨func244,rfl,kR⟩
instance C245:Ic prog 245 Tryz.f245:=⟨func245,rfl,kR⟩
instance C246:Ic prog 246 Tryz.f246:=⟨func246,rfl,kR⟩
instance C247:Ic prog 247 Tryz.f247:=⟨func247,rfl,kR⟩
instance C248:Ic prog 248 Tryz.f248:=⟨func248,rfl,kR⟩
instance C249:Ic prog 249 Tryz.f249:=⟨func249,rfl,kR⟩
instance C25:Ic prog 25 Tryz.f25:=⟨func25,rfl,kR⟩
instance C253:Ic prog 253 Tryz.f253:=⟨func253,rfl,kR⟩
instance C254:Ic prog 254 Tryz.f254:=⟨func254,rfl,kR⟩
instance C27:Ic prog 27 Tryz.f27:=⟨func27,rfl,kR⟩
instance C270:Ic prog 270 Tryz.f270:=⟨func270,rfl,kR⟩
instance C271:Ic prog 271 Tryz.f271:=⟨func271,rfl,kR⟩
instance C272:Ic prog 272 Tryz.f272:=⟨func272,rfl,kR⟩
instance C273:Ic prog 273 Tryz.f273:=⟨func273,rfl,kR⟩
instance C274:Ic prog 274 Tryz.f274:=⟨func274,rfl,kR⟩
instance C275:Ic prog 275 Tryz.f275:=⟨func275,rfl,kR⟩
instance C276:Ic prog 276 Tryz.f276:=⟨func276,rfl,kR⟩
instance C277:Ic prog 277 Tryz.f277:=⟨func277,rfl,kR⟩
instance C278:Ic prog 278 Tryz.f278:=⟨func278,rfl,kR⟩
instance C279:Ic prog 279 Tryz.f279:=⟨func279,rfl,kR⟩
instance C28:Ic prog 28 Tryz.f28:=⟨func28,rfl,kR⟩
instance C280:Ic prog 280 Tryz.f280:=⟨func280,rfl,kR⟩
instance C281:Ic prog 281 Tryz.f281:=⟨func281,rfl,kR⟩
instance C283:Ic prog 283 Tryz.f283:=⟨func283,rfl,kR⟩
instance C284:Ic prog 284 Tryz.f284:=⟨func284,rfl,kR⟩
instance C29:Ic prog 29 Tryz.f29:=⟨func29,rfl,kR⟩
instance C294:Ic prog 294 Tryz.f294:=⟨func294,rfl,kR⟩
instance C295:Ic prog 295 Tryz.f295:=⟨func295,rfl,kR⟩
instance C296:Ic prog 296 Tryz.f296:=⟨func296,rfl,kR⟩
instance C297:Ic prog 297 Tryz.f297:=⟨func297,rfl,kR⟩
instance C298:Ic prog 298 Tryz.f298:=⟨func298,rfl,kR⟩
instance C299:Ic prog 299 Tryz.f299:=⟨func299,rfl,kR⟩
instance C30:Ic prog 30 Tryz.f30:=⟨func30,rfl,kR⟩
instance C300:Ic prog 300 Tryz.f300:=⟨func300,rfl,kR⟩
instance C301:Ic prog 301 Tryz.f301:=⟨func301,rfl,kR⟩
instance C302:Ic prog 302 Tryz.f302:=⟨func302,rfl,kR⟩
instance C303:Ic prog 303 Tryz.f303:=⟨func303,rfl,kR⟩
instance C31:Ic prog 31 Tryz.f31:=⟨func31,rfl,kR⟩
instance C310:Ic prog 310 Tryz.f310:=⟨func310,rfl,kR⟩
instance C318:Ic prog 318 Tryz.f318:=⟨func318,rfl,kR⟩
instance C319:Ic prog 319 Tryz.f319:=⟨func319,rfl,kR⟩
instance C32:Ic prog 32 Tryz.f32:=⟨func32,rfl,kR⟩
instance C33:Ic prog 33 Tryz.f33:=⟨func33,rfl,kR⟩
instance C34:Ic prog 34 Tryz.f34:=⟨func34,rfl,kR⟩
instance C35:Ic prog 35 Tryz.f35:=⟨func35,rfl,kR⟩
instance C36:Ic prog 36 Tryz.f36:=⟨func36,rfl,kR⟩
instance C39:Ic prog 39 Tryz.f39:=⟨func39,rfl,kR⟩
instance C44:Ic prog 44 Tryz.f44:=⟨func44,rfl,kR⟩
instance C45:Ic prog 45 Tryz.f45:=⟨func45,rfl,kR⟩
instance C46:Ic prog 46 Tryz.f46:=⟨func46,rfl,kR⟩
instance C47:Ic prog 47 Tryz.f47:=⟨func47,rfl,kR⟩
instance C48:Ic prog 48 Tryz.f48:=⟨func48,rfl,kR⟩
instance C49:Ic prog 49 Tryz.f49:=⟨func49,rfl,kR⟩
instance C5:Ic prog 5 Tryz.f5:=⟨func5,rfl,kR⟩
instance C51:Ic prog 51 Tryz.f51:=⟨func51,rfl,kR⟩
instance C52:Ic prog 52 Tryz.f52:=⟨func52,rfl,kR⟩
instance C53:Ic prog 53 Tryz.f53:=⟨func53,rfl,kR⟩
instance C55:Ic prog 55 Tryz.f55:=⟨func55,rfl,kR⟩
instance C56:Ic prog 56 Tryz.f56:=⟨func56,rfl,kR⟩
instance C57:Ic prog 57 Tryz.f57:=⟨func57,rfl,kR⟩
instance C58:Ic prog 58 Tryz.f58:=⟨func58,rfl,kR⟩
instance C59:Ic prog 59 Tryz.f59:=⟨func59,rfl,kR⟩
instance C6:Ic prog 6 Tryz.f6:=⟨func6,rfl,kR⟩
instance C60:Ic prog 60 Tryz.f60:=⟨func60,rfl,kR⟩
instance C61:Ic prog 61 Tryz.f61:=⟨func61,rfl,kR⟩
instance C62:Ic prog 62 Tryz.f62:=⟨func62,rfl,kR⟩
instance C63:Ic prog 63 Tryz.f63:=⟨func63,rfl,kR⟩
instance C64:Ic prog 64 Tryz.f64:=⟨func64,rfl,kR⟩
instance C65:Ic prog 65 Tryz.f65:=⟨func65,rfl,kR⟩
instance C66:Ic prog 66 Tryz.f66:=⟨func66,rfl,kR⟩
instance C67:Ic prog 67 Tryz.f67:=⟨func67,rfl,kR⟩
instance C68:Ic prog 68 Tryz.f68:=⟨func68,rfl,kR⟩
instance C69:Ic prog 69 Tryz.f69:=⟨func69,rfl,kR⟩
instance C7:Ic prog 7 Tryz.f7:=⟨func7,rfl,kR⟩
instance C70:Ic prog 70 Tryz.f70:=⟨func70,rfl,kR⟩
instance C71:Ic prog 71 Tryz.f71:=⟨func71,rfl,kR⟩
instance C79:Ic prog 79 Tryz.f79:=⟨func79,rfl,kR⟩
instance C8:Ic prog 8 Tryz.f8:=⟨func8,rfl,kR⟩
instance C80:Ic prog 80 Tryz.f80:=⟨func80,rfl,kR⟩
instance C81:Ic prog 81 Tryz.f81:=⟨func81,rfl,kR⟩
instance C82:Ic prog 82 Tryz.f82:=⟨func82,rfl,kR⟩
instance C84:Ic prog 84 Tryz.f84:=⟨func84,rfl,kR⟩
instance C85:Ic prog 85 Tryz.f85:=⟨func85,rfl,kR⟩
instance C86:Ic prog 86 Tryz.f86:=⟨func86,rfl,kR⟩
instance C87:Ic prog 87 Tryz.f87:=⟨func87,rfl,kR⟩
instance C88:Ic prog 88 Tryz.f88:=⟨func88,rfl,kR⟩
instance C89:Ic prog 89 Tryz.f89:=⟨func89,rfl,kR⟩
instance C9:Ic prog 9 Tryz.f9:=⟨func9,rfl,kR⟩
instance C90:Ic prog 90 Tryz.f90:=⟨func90,rfl,kR⟩
instance C91:Ic prog 91 Tryz.f91:=⟨func91,rfl,kR⟩
instance C92:Ic prog 92 Tryz.f92:=⟨func92,rfl,kR⟩
instance C93:Ic prog 93 Tryz.f93:=⟨func93,rfl,kR⟩
instance C94:Ic prog 94 Tryz.f94:=⟨func94,rfl,kR⟩
instance C95:Ic prog 95 Tryz.f95:=⟨func95,rfl,kR⟩
instance C96:Ic prog 96 Tryz.f96:=⟨func96,rfl,kR⟩
instance C97:Ic prog 97 Tryz.f97:=⟨func97,rfl,kR⟩
instance C98:Ic prog 98 Tryz.f98:=⟨func98,rfl,kR⟩
instance C99:Ic prog 99 Tryz.f99:=⟨func99,rfl,kR⟩
instance A101:Ia prog 101 true:=⟨isAgg101⟩
instance A102:Ia prog 102 false:=⟨isAgg102⟩
instance A104:Ia prog 104 true:=⟨isAgg104⟩
instance A106:Ia prog 106 true:=⟨isAgg106⟩
instance A108:Ia prog 108 false:=⟨isAgg108⟩
instance A110:Ia prog 110 false:=⟨isAgg110⟩
instance A112:Ia prog 112 true:=⟨isAgg112⟩
instance A114:Ia prog 114 true:=⟨isAgg114⟩
instance A122:Ia prog 122 true:=⟨isAgg122⟩
instance A152:Ia prog 152 true:=⟨isAgg152⟩
instance A164:Ia prog 164 true:=⟨isAgg164⟩
instance A167:Ia prog 167 true:=⟨isAgg167⟩
instance A204:Ia prog 204 false:=⟨isAgg204⟩
instance A206:Ia prog 206 true:=⟨isAgg206⟩
instance A224:Ia prog 224 false:=⟨isAgg224⟩
instance A226:Ia prog 226 true:=⟨isAgg226⟩
instance A24:Ia prog 24 false:=⟨isAgg24⟩
instance A25:Ia prog 25 false:=⟨isAgg25⟩
instance A274:Ia prog 274 true:=⟨isAgg274⟩
instance A276:Ia prog 276 true:=⟨isAgg276⟩
instance A28:Ia prog 28 true:=⟨isAgg28⟩
instance A284:Ia prog 284 true:=⟨isAgg284⟩
instance A286:Ia prog 286 true:=⟨isAgg286⟩
instance A287:Ia prog 287 false:=⟨isAgg287⟩
instance A3:Ia prog 3 false:=⟨isAgg3⟩
instance A30:Ia prog 30 true:=⟨isAgg30⟩
instance A31:Ia prog 31 true:=⟨isAgg31⟩
instance A33:Ia prog 33 false:=⟨isAgg33⟩
instance A34:Ia prog 34 false:=⟨isAgg34⟩
instance A35:Ia prog 35 false:=⟨isAgg35⟩
instance A36:Ia prog 36 false:=⟨isAgg36⟩
instance A38:Ia prog 38 true:=⟨isAgg38⟩
instance A4:Ia prog 4 false:=⟨isAgg4⟩
instance A41:Ia prog 41 false:=⟨isAgg41⟩
instance A45:Ia prog 45 false:=⟨isAgg45⟩
instance A5:Ia prog 5 false:=⟨isAgg5⟩
instance A61:Ia prog 61 true:=⟨isAgg61⟩
instance A68:Ia prog 68 false:=⟨isAgg68⟩
instance A70:Ia prog 70 true:=⟨isAgg70⟩
instance A79:Ia prog 79 false:=⟨isAgg79⟩
instance A81:Ia prog 81 true:=⟨isAgg81⟩
instance A87:Ia prog 87 false:=⟨isAgg87⟩
instance A9:Ia prog 9 false:=⟨isAgg9⟩
instance A94:Ia prog 94 false:=⟨isAgg94⟩
instance A99:Ia prog 99 false:=⟨isAgg99⟩
instance S101:Sz prog 101 3:=⟨sizeOf101⟩
instance S102:Sz prog 102 1:=⟨sizeOf102⟩
instance S104:Sz prog 104 4:=⟨sizeOf104⟩
instance S106:Sz prog 106 5:=⟨sizeOf106⟩
instance S108:Sz prog 108 1:=⟨sizeOf108⟩
instance S110:Sz prog 110 1:=⟨sizeOf110⟩
instance S112:Sz prog 112 7:=⟨sizeOf112⟩
instance S114:Sz prog 114 33:=⟨sizeOf114⟩
instance S122:Sz prog 122 2:=⟨sizeOf122⟩
instance S152:Sz prog 152 9:=⟨sizeOf152⟩
instance S158:Sz prog 158 7:=⟨sizeOf158⟩
instance S164:Sz prog 164 3:=⟨sizeOf164⟩
instance S167:Sz prog 167 16:=⟨sizeOf167⟩
instance S203:Sz prog 203 1:=⟨sizeOf203⟩
instance S204:Sz prog 204 1:=⟨sizeOf204⟩
instance S206:Sz prog 206 17:=⟨sizeOf206⟩
instance S226:Sz prog 226 3:=⟨sizeOf226⟩
instance S25:Sz prog 25 1:=⟨sizeOf25⟩
instance S274:Sz prog 274 256:=⟨sizeOf274⟩
instance S276:Sz prog 276 259:=⟨sizeOf276⟩
instance S28:Sz prog 28 14:=⟨sizeOf28⟩
instance S284:Sz prog 284 1:=⟨sizeOf284⟩
instance S286:Sz prog 286 3:=⟨sizeOf286⟩
instance S287:Sz prog 287 1:=⟨sizeOf287⟩
instance S3:Sz prog 3 1:=⟨sizeOf3⟩
instance S30:Sz prog 30 3:=⟨sizeOf30⟩
instance S31:Sz prog 31 2:=⟨sizeOf31⟩
instance S33:Sz prog 33 1:=⟨sizeOf33⟩
instance S34:Sz prog 34 1:=⟨sizeOf34⟩
instance S35:Sz prog 35 1:=⟨sizeOf35⟩
instance S36:Sz prog 36 1:=⟨sizeOf36⟩
instance S38:Sz prog 38 4:=⟨sizeOf38⟩
instance S4:Sz prog 4 1:=⟨sizeOf4⟩
instance S45:Sz prog 45 1:=⟨sizeOf45⟩
instance S5:Sz prog 5 1:=⟨sizeOf5⟩
instance S61:Sz prog 61 4:=⟨sizeOf61⟩
instance S68:Sz prog 68 1:=⟨sizeOf68⟩
instance S70:Sz prog 70 2:=⟨sizeOf70⟩
instance S79:Sz prog 79 1:=⟨sizeOf79⟩
instance S81:Sz prog 81 3:=⟨sizeOf81⟩
instance S87:Sz prog 87 1:=⟨sizeOf87⟩
instance S9:Sz prog 9 1:=⟨sizeOf9⟩
instance S94:Sz prog 94 1:=⟨sizeOf94⟩
instance S99:Sz prog 99 1:=⟨sizeOf99⟩
instance U102:Un prog 102 (.int IntKind.u64):=⟨underlying102⟩
instance U104:Un prog 104 (.array 4 102):=⟨underlying104⟩
instance U108:Un prog 108 (.slice 122):=⟨underlying108⟩
instance U110:Un prog 110 (.slice 152):=⟨underlying110⟩
instance U144:Un prog 144 (.int IntKind.u64):=⟨underlying144⟩
instance U167:Un prog 167 (.array 16 4):=⟨underlying167⟩
instance U207:Un prog 207 (.pointer 4):=⟨underlying207⟩
instance U22:Un prog 22 (.array 4 5):=⟨underlying22⟩
instance U224:Un prog 224 (.slice 104):=⟨underlying224⟩
instance U23:Un prog 23 (.array 5 5):=⟨underlying23⟩
instance U25:Un prog 25 (.int IntKind.u16):=⟨underlying25⟩
instance U252:Un prog 252 (.slice 226):=⟨underlying252⟩
instance U26:Un prog 26 (.array 3 25):=⟨underlying26⟩
instance U274:Un prog 274 (.array 256 3):=⟨underlying274⟩
instance U284:Un prog 284 (.array 1 102):=⟨underlying284⟩
instance U3:Un prog 3 (.int IntKind.i64):=⟨underlying3⟩
instance U31:Un prog 31 (.array 2 3):=⟨underlying31⟩
instance U312:Un prog 312 (.array 2 104):=⟨underlying312⟩
instance U324:Un prog 324 (.map 286 3):=⟨underlying324⟩
instance U325:Un prog 325 (.slice 286):=⟨underlying325⟩
instance U33:Un prog 33 (.slice 70):=⟨underlying33⟩
instance U339:Un prog 339 (.map 9 3):=⟨underlying339⟩
instance U34:Un prog 34 (.slice 61):=⟨underlying34⟩
instance U35:Un prog 35 (.slice 31):=⟨underlying35⟩
instance U354:Un prog 354 (.array 64 5):=⟨underlying354⟩
instance U36:Un prog 36 (.slice 45):=⟨underlying36⟩
instance U45:Un prog 45 (.slice 3):=⟨underlying45⟩
instance U5:Un prog 5 (.int IntKind.u8):=⟨underlying5⟩
instance U63:Un prog 63 (.array 2 5):=⟨underlying63⟩
instance U68:Un prog 68 (.slice 114):=⟨underlying68⟩
instance U76:Un prog 76 (.map 31 3):=⟨underlying76⟩
instance U79:Un prog 79 (.slice 9):=⟨underlying79⟩
instance U94:Un prog 94 (.slice 4):=⟨underlying94⟩
instance U99:Un prog 99 (.slice 5):=⟨underlying99⟩
instance O101_0:Fo prog 101 0 0:=⟨kR⟩
instance O101_1:Fo prog 101 1 1:=⟨kR⟩
instance O101_2:Fo prog 101 2 2:=⟨kR⟩
instance O106_0:Fo prog 106 0 0:=⟨kR⟩
instance O106_1:Fo prog 106 1 1:=⟨kR⟩
instance O106_2:Fo prog 106 2 2:=⟨kR⟩
instance O106_3:Fo prog 106 3 3:=⟨kR⟩
instance O112_0:Fo prog 112 0 0:=⟨kR⟩
instance O112_1:Fo prog 112 1 1:=⟨kR⟩
instance O112_2:Fo prog 112 2 2:=⟨kR⟩
instance O112_3:Fo prog 112 3 3:=⟨kR⟩
instance O112_4:Fo prog 112 4 4:=⟨kR⟩
instance O112_5:Fo prog 112 5 5:=⟨kR⟩
instance O112_6:Fo prog 112 6 6:=⟨kR⟩
instance O114_0:Fo prog 114 0 0:=⟨kR⟩
instance O114_1:Fo prog 114 1 1:=⟨kR⟩
instance O114_10:Fo prog 114 10 12:=⟨kR⟩
instance O114_11:Fo prog 114 11 16:=⟨kR⟩
instance O114_12:Fo prog 114 12 21:=⟨kR⟩
instance O114_13:Fo prog 114 13 22:=⟨kR⟩
instance O114_14:Fo prog 114 14 23:=⟨kR⟩
instance O114_15:Fo prog 114 15 30:=⟨kR⟩
instance O114_16:Fo prog 114 16 31:=⟨kR⟩
instance O114_17:Fo prog 114 17 32:=⟨kR⟩
instance O114_2:Fo prog 114 2 2:=⟨kR⟩
instance O114_3:Fo prog 114 3 3:=⟨kR⟩
instance O114_4:Fo prog 114 4 4:=⟨kR⟩
instance O114_5:Fo prog 114 5 5:=⟨kR⟩
instance O114_6:Fo prog 114 6 6:=⟨kR⟩
instance O114_7:Fo prog 114 7 7:=⟨kR⟩
instance O114_8:Fo prog 114 8 8:=⟨kR⟩
instance O114_9:Fo prog 114 9 9:=⟨kR⟩
instance O122_0:Fo prog 122 0 0:=⟨kR⟩
instance O122_1:Fo prog 122 1 1:=⟨kR⟩
instance O152_0:Fo prog 152 0 0:=⟨kR⟩
instance O152_1:Fo prog 152 1 1:=⟨kR⟩
instance O152_2:Fo prog 152 2 5:=⟨kR⟩
instance O152_3:Fo prog 152 3 6:=⟨kR⟩
instance O152_4:Fo prog 152 4 7:=⟨kR⟩
instance O152_5:Fo prog 152 5 8:=⟨kR⟩
instance O158_0:Fo prog 158 0 0:=⟨kR⟩
instance O158_1:Fo prog 158 1 2:=⟨kR⟩
instance O158_2:Fo prog 158 2 3:=⟨kR⟩
instance O161_2:Fo prog 161 2 2:=⟨kR⟩
instance O161_3:Fo prog 161 3 3:=⟨kR⟩
instance O164_0:Fo prog 164 0 0:=⟨kR⟩
instance O164_2:Fo prog 164 2 2:=⟨kR⟩
instance O206_0:Fo prog 206 0 0:=⟨kR⟩
instance O206_1:Fo prog 206 1 1:=⟨kR⟩
instance O226_0:Fo prog 226 0 0:=⟨kR⟩
instance O226_1:Fo prog 226 1 1:=⟨kR⟩
instance O226_2:Fo prog 226 2 2:=⟨kR⟩
instance O276_0:Fo prog 276 0 0:=⟨kR⟩
instance O276_1:Fo prog 276 1 256:=⟨kR⟩
instance O276_2:Fo prog 276 2 257:=⟨kR⟩
instance O276_3:Fo prog 276 3 258:=⟨kR⟩
instance O286_0:Fo prog 286 0 0:=⟨kR⟩
instance O286_2:Fo prog 286 2 2:=⟨kR⟩
instance O28_0:Fo prog 28 0 0:=⟨kR⟩
instance O28_1:Fo prog 28 1 1:=⟨kR⟩
instance O28_2:Fo prog 28 2 5:=⟨kR⟩
instance O28_3:Fo prog 28 3 10:=⟨kR⟩
instance O28_4:Fo prog 28 4 11:=⟨kR⟩
instance O30_0:Fo prog 30 0 0:=⟨kR⟩
instance O30_1:Fo prog 30 1 1:=⟨kR⟩
instance O30_2:Fo prog 30 2 2:=⟨kR⟩
instance O38_0:Fo prog 38 0 0:=⟨kR⟩
instance O38_1:Fo prog 38 1 1:=⟨kR⟩
instance O38_2:Fo prog 38 2 2:=⟨kR⟩
instance O38_3:Fo prog 38 3 3:=⟨kR⟩
instance O61_0:Fo prog 61 0 0:=⟨kR⟩
instance O61_1:Fo prog 61 1 1:=⟨kR⟩
instance O61_2:Fo prog 61 2 2:=⟨kR⟩
instance O61_3:Fo prog 61 3 3:=⟨kR⟩
instance O70_0:Fo prog 70 0 0:=⟨kR⟩
instance O70_1:Fo prog 70 1 1:=⟨kR⟩
instance O81_0:Fo prog 81 0 0:=⟨kR⟩
instance O81_1:Fo prog 81 1 1:=⟨kR⟩
instance O81_2:Fo prog 81 2 2:=⟨kR⟩
def tb:Tq prog:=⟨[⟨3,false,0,isAgg3,nofun⟩,⟨114,true,33,isAgg114,fun _=>sizeOf114⟩,⟨38,true,4,isAgg38,fun _=>sizeOf38⟩,⟨104,true,4,isAgg104,fun _=>sizeOf104⟩,⟨206,true,17,isAgg206,fun _=>sizeOf206⟩,⟨36,false,0,isAgg36,nofun⟩,⟨167,true,16,isAgg167,fun _=>sizeOf167⟩,⟨45,false,0,isAgg45,nofun⟩,⟨34,false,0,isAgg34,nofun⟩,⟨4,false,0,isAgg4,nofun⟩,⟨70,true,2,isAgg70,fun _=>sizeOf70⟩,⟨226,true,3,isAgg226,fun _=>sizeOf226⟩,⟨68,false,0,isAgg68,nofun⟩,⟨204,false,0,isAgg204,nofun⟩,⟨102,false,0,isAgg102,nofun⟩,⟨276,true,259,isAgg276,fun _=>sizeOf276⟩,⟨31,true,2,isAgg31,fun _=>sizeOf31⟩,⟨33,false,0,isAgg33,nofun⟩,⟨99,false,0,isAgg99,nofun⟩,⟨35,false,0,isAgg35,nofun⟩,⟨94,false,0,isAgg94,nofun⟩,⟨5,false,0,isAgg5,nofun⟩,⟨110,false,0,isAgg110,nofun⟩,⟨286,true,3,isAgg286,fun _=>sizeOf286⟩,⟨284,true,1,isAgg284,fun _=>sizeOf284⟩,⟨9,false,0,isAgg9,nofun⟩,⟨108,false,0,isAgg108,nofun⟩,⟨61,true,4,isAgg61,fun _=>sizeOf61⟩,⟨152,true,9,isAgg152,fun _=>sizeOf152⟩,⟨112,true,7,isAgg112,fun _=>sizeOf112⟩,⟨224,false,0,isAgg224,nofun⟩,⟨101,true,3,isAgg101,fun _=>sizeOf101⟩,⟨274,true,256,isAgg274,fun _=>sizeOf274⟩,⟨28,true,14,isAgg28,fun _=>sizeOf28⟩,⟨106,true,5,isAgg106,fun _=>sizeOf106⟩,⟨79,false,0,isAgg79,nofun⟩,⟨81,true,3,isAgg81,fun _=>sizeOf81⟩,⟨122,true,2,isAgg122,fun _=>sizeOf122⟩,⟨164,true,3,isAgg164,fun _=>sizeOf164⟩,⟨287,false,0,isAgg287,nofun⟩,⟨87,false,0,isAgg87,nofun⟩,⟨24,false,0,isAgg24,nofun⟩,⟨25,false,0,isAgg25,nofun⟩,⟨30,true,3,isAgg30,fun _=>sizeOf30⟩,⟨41,false,0,isAgg41,nofun⟩],[⟨114,0,0,kR⟩,⟨114,17,32,kR⟩,⟨38,1,1,kR⟩,⟨114,16,31,kR⟩,⟨70,0,0,kR⟩,⟨70,1,1,kR⟩,⟨114,1,1,kR⟩,⟨38,3,3,kR⟩,⟨38,2,2,kR⟩,⟨38,0,0,kR⟩,⟨206,1,1,kR⟩,⟨114,14,23,kR⟩,⟨114,2,2,kR⟩,⟨114,4,4,kR⟩,⟨61,0,0,kR⟩,⟨158,0,0,kR⟩,⟨276,2,257,kR⟩,⟨114,9,9,kR⟩,⟨206,0,0,kR⟩,⟨114,12,21,kR⟩,⟨152,0,0,kR⟩,⟨152,5,8,kR⟩,⟨114,5,5,kR⟩,⟨112,0,0,kR⟩,⟨112,2,2,kR⟩,⟨114,13,22,kR⟩,⟨152,4,7,kR⟩,⟨276,3,258,kR⟩,⟨61,1,1,kR⟩,⟨112,6,6,kR⟩,⟨122,0,0,kR⟩,⟨158,1,2,kR⟩,⟨101,1,1,kR⟩,⟨114,6,6,kR⟩,⟨114,7,7,kR⟩,⟨226,1,1,kR⟩,⟨276,0,0,kR⟩,⟨30,2,2,kR⟩,⟨61,2,2,kR⟩,⟨101,0,0,kR⟩,⟨101,2,2,kR⟩,⟨112,5,5,kR⟩,⟨114,15,30,kR⟩,⟨114,3,3,kR⟩,⟨226,0,0,kR⟩,⟨286,2,2,kR⟩,⟨112,3,3,kR⟩,⟨112,4,4,kR⟩,⟨114,11,16,kR⟩,⟨114,8,8,kR⟩,⟨81,2,2,kR⟩,⟨106,1,1,kR⟩,⟨106,2,2,kR⟩,⟨106,3,3,kR⟩,⟨114,10,12,kR⟩,⟨152,2,5,kR⟩,⟨158,2,3,kR⟩,⟨226,2,2,kR⟩,⟨61,3,3,kR⟩,⟨112,1,1,kR⟩,⟨152,3,6,kR⟩,⟨286,0,0,kR⟩,⟨28,0,0,kR⟩,⟨106,0,0,kR⟩,⟨122,1,1,kR⟩,⟨152,1,1,kR⟩,⟨164,0,0,kR⟩,⟨161,2,2,kR⟩,⟨161,3,3,kR⟩,⟨164,2,2,kR⟩,⟨276,1,256,kR⟩,⟨28,1,1,kR⟩,⟨28,2,5,kR⟩,⟨28,3,10,kR⟩,⟨28,4,11,kR⟩,⟨30,0,0,kR⟩,⟨30,1,1,kR⟩,⟨81,0,0,kR⟩,⟨81,1,1,kR⟩],[⟨108,122,underlying108⟩,⟨110,152,underlying110⟩,⟨224,104,underlying224⟩,⟨252,226,underlying252⟩,⟨325,286,underlying325⟩,⟨33,70,underlying33⟩,⟨34,61,underlying34⟩,⟨35,31,underlying35⟩,⟨36,45,underlying36⟩,⟨45,3,underlying45⟩,⟨68,114,underlying68⟩,⟨79,9,underlying79⟩,⟨94,4,underlying94⟩,⟨99,5,underlying99⟩]⟩
section
variable {N:Nat} {r:Option Nat} {Q:Exit→Env→World→Prop} {D:List Deferred} {c:Ctx} {G:Ghost} {H:List Res} {w:World} {m:Md} {ds ds':List It} {L L':List (Nat×Value)} {es:List (Nat×Nat)} {ops:Array Oper} {l:List Oper} {cd:Code}
theorem Wt (n:Nat) (hh:List Nat) (hs:St c G H w) (h:qc tb N H D n (.cd cd) [] L hh=some (m,ds',L',es)) (k:At ⟨prog,N,r⟩ m (sqs ⟨prog,N,r⟩ ds' Q) ⟨D,L'⟩ w) (he:eqs es:=by exact rfl):T ⟨prog,N,r⟩ cd Q ⟨D,L⟩ w:=qc_ok (m:=.cd cd) (ds:=[]) hs h he k
theorem Wu (n:Nat) (hh:List Nat) (hs:St c G H w) (h:qc tb N H D n (.cd cd) ds L hh=some (m,ds',L',es)) (k:At ⟨prog,N,r⟩ m (sqs ⟨prog,N,r⟩ ds' Q) ⟨D,L'⟩ w) (he:eqs es:=by exact rfl):T ⟨prog,N,r⟩ cd (sqs ⟨prog,N,r⟩ ds Q) ⟨D,L⟩ w:=qc_ok (m:=.cd cd) (ds:=ds) hs h he k
theorem Wo (n:Nat) (hh:List Nat) (hs:St c G H w) (h:qc tb N H D n (.op ops l) [] L hh=some (m,ds',L',es)) (k:At ⟨prog,N,r⟩ m (sqs ⟨prog,N,r⟩ ds' Q) ⟨D,L'⟩ w) (he:eqs es:=by exact rfl):O ⟨prog,N,r⟩ ops Q l ⟨D,L⟩ w:=qc_ok (m:=.op ops l) (ds:=[]) hs h he k
theorem Wp (n:Nat) (hh:List Nat) (hs:St c G H w) (h:qc tb N H D n (.op ops l) ds L hh=some (m,ds',L',es)) (k:At ⟨prog,N,r⟩ m (sqs ⟨prog,N,r⟩ ds' Q) ⟨D,L'⟩ w) (he:eqs es:=by exact rfl):O ⟨prog,N,r⟩ ops (sqs ⟨prog,N,r⟩ ds Q) l ⟨D,L⟩ w:=qc_ok (m:=.op ops l) (ds:=ds) hs h he k
theorem Xr {fu:Nat} {li:Array Bool} {pre:List Nat} (n hh:List Nat) (hs:St c G H w) (h:qa tb H ops D n L hh=some (L',es)) (k:A ⟨prog,N,r⟩ ops pre (St c G H) Q (fu-n.length) (qs li n) ⟨D,L'⟩ w) (he:eqs es:=by exact rfl) (ht:(qt ops pre li n&&Nat.ble n.length fu)=true:=by kernel_rfl):A ⟨prog,N,r⟩ ops pre (St c G H) Q fu li ⟨D,L⟩ w:=qa_le hs h he ht k
end
theorem TI5:TI prog 5 (.int .u8 0) 1 1:=TI.of kR
theorem tz_ok {G:Ghost} {x:Nat} (hT:Tab G) :
  FnOk prog 301 [u64V x] G [] fun r _ H'=>H'=[]∧r=Vi ((tzF x:Nat):Int):=by
 refine FnOk.of_T [(0,_)] func301 rfl ntmps301 sM rfl fun w0 hs=>?_
 have hT0:=hT
 refine Wt 8 [0] hs rfl<|Zy hs (Yc rfl (fun h4=>?_) fun h4=>?_)
 ·
  refine Wp 6 [0,0] hs rfl<|T_ret<|Zz results301 rfl ?_
  exact ⟨_,[],hs.done,rfl,congrArg (Value.int .i64) (by unfold tzF;rw [if_pos oM];rfl)⟩
 refine Wp 7 [0] hs rfl<|Zy hs (Y_neg64 rfl<|Zy hs (Y_and64 rfl rfl<|Zy hs (Y_mul64 (b:=285870213051353865) rfl rfl<|Zy hs (Y_shr64 58 dC rfl rfl<|Zy hs (Y_idxArr' (tzI x) underlying354 sizeOf5 rfl rfl rfl (tzI_lt x)<|Zy hs (Yg rfl (hT _ (tzI_lt x))<|Zy hs (Y_conv underlying5 underlying3 (c:=((tab64.getD (tzI x) 0:Nat):Int)) rfl (wrap64_eq (by have:=tab_le (tzI x);omega))<|Wp 2 [0] hs rfl<|T_ret<|Zz results301 rfl ?_)))))))
 exact ⟨_,[],hs.done,rfl,congrArg (Value.int .i64) (by unfold tzF;rw [if_neg oM])⟩
theorem pop_ok {G:Ghost} {x:Nat} :
  FnOk prog 278 [u64V x] G [] fun r _ H'=>H'=[]∧r=Vi ((popF x:Nat):Int):=by
 refine FnOk.of_T [(0,_)] func278 rfl ntmps278 sM rfl fun w0 hs =>Wt 7 [0] hs rfl<|Zy hs (Y_shr64 1 dC rfl rfl<|Zy hs (Y_and64 (b:=6148914691236517205) rfl rfl<|Wp 1 [] hs rfl<|Zy hs (Y_and64 (b:=6148914691236517205) rfl rfl<|Zy hs (Y_add64 rfl rfl<|Wp 5 [0] hs rfl<|Zy hs (Y_shr64 2 dC rfl rfl<|Zy hs (Y_and64 (b:=3689348814741910323) rfl rfl<|Wp 1 [] hs rfl<|Zy hs (Y_and64 (b:=3689348814741910323) rfl rfl<|Zy hs (Y_add64 rfl rfl<|Wp 5 [0] hs rfl<|Zy hs (Y_shr64 4 dC rfl rfl<|Wp 1 [] hs rfl<|Zy hs (Y_add64 rfl rfl<|Zy hs (Y_and64 (b:=1085102592571150095) rfl rfl<|Wp 6 [1,0] hs rfl<|Zy hs (Y_shr64 8 dC rfl rfl<|Zy hs (Y_add64 rfl rfl<|Wp 6 [0] hs rfl<|Zy hs (Y_shr64 16 dC rfl rfl<|Zy hs (Y_add64 rfl rfl<|Wp 6 [0] hs rfl<|Zy hs (Y_shr64 32 dC rfl rfl<|Zy hs (Y_add64 rfl rfl<|Wp 5 [0] hs rfl<|Zy hs (Y_conv underlying102 underlying3 (c:=((pop6 x:Nat):Int)) rfl (wrap64_eq (by have:=pop6_lt x;exact ⟨by omega,by show (pop6 x:Int)≤_;omega⟩))<|Zy hs (Y_bits rfl rfl sM (and127 (pop6 x))<|Wp 2 [0] hs rfl<|T_ret<|Zz results278 rfl ?_)))))))))))))))))))
 exact ⟨_,[],hs.done,rfl,rfl⟩
theorem size_ok {G:Ghost} {c:List Nat} (hc:c.length=4) :
  FnOk prog 237 [ClsV c] G [] fun r _ H'=>H'=[]∧r=Vi ((sizeF c:Nat):Int):=by
 refine FnOk.of_T [(0,_)] func237 rfl ntmps237 sM rfl fun w0 hs =>Wt 2 [] hs rfl<|O_s (S_box hs rfl (cs:=(List.map u64V c)) rfl fun b1 _ hs =>Wp 9 [0,0] hs rfl<|Zy hs (Yk 0 rfl Z36<|Wp 2 [0] hs rfl<|Zl [3,6,7] (fun m E w=>∃ (k:Nat) (G':Ghost),k≤4∧m=4-k∧E=⟨[],[(3,Vi ((sizeF (c.take k):Nat):Int)),(6,(ClsV c)),(7,Vi (k:Int))]⟩∧St ⟨w0,G,feet []⟩ G' [.blk b1 104 (List.map u64V c)] w) rfl (⟨0,_,by omega,rfl,rfl,hs⟩) fun m E w hI=>?_))
 obtain ⟨k,G',hk,rfl,rfl,hs⟩:=hI
 refine Wt 2 [] hs rfl<|Zy hs (Yc rfl (fun h8=>?_) fun h8=>?_)
 ·
  refine Wp 8 [0] hs rfl<|Zy hs (Y_indexV (vs:=List.map u64V c) (v:=u64V c[k]) k underlying104 isAgg102 sizeOf102 rfl rfl rfl oM (by rw [List.getElem?_map,List.getElem?_eq_getElem oM];rfl) ?_)
  refine Wp 5 [0] hs rfl<|O_s (Sc (pop_ok) hs rfl fun v1 G' H' _ hR hG12 hs=>?_)
  obtain ⟨rfl,rfl⟩:=hR
  replace hs:=hs.n rfl
  refine Zy hs (Y_add (c:=((sizeF (c.take k)+popF c[k]:Nat):Int)) rfl rfl oM (by have h1:=sizeF_le (c.take k);have:=popF_le c[k];rw [List.length_take] at h1;omega)<|Wp 3 [0] hs rfl<|Zy hs (Ya (s:=((k+1:Nat):Int)) rfl<|Wp 1 [] hs rfl<|Zx [3,6,7] rfl ⟨k+1,_,by omega,rfl,by rw [sizeF_snoc c k oM],hs⟩))
 refine Wp 4 [0] hs rfl<|Wu 5 [0] hs rfl<|T_ret<|Zz results237 rfl ?_
 obtain rfl:k=4:=by omega
 exact ⟨_,[],hs.done,rfl,by rw [List.take_of_length_le oM]⟩
theorem add_ok {G:Ghost} {p:Nat} {c:List Nat} {x:UInt8} (hc:c.length=4) :
  FnOk prog 318 [Vp p,.int .u8 (x.toNat:Int)] G [.blk p 104 (c.map u64V)] fun _ _ H'=>H'=[.blk p 104 ((addF c x).map u64V)]:=by
 have hx:=x.toNat_lt
 have hcell:(c.map u64V)[x.toNat / 64]?=some (u64V (c.getD (x.toNat / 64) 0)):=by rw [List.getElem?_map,List.getElem?_eq_getElem oM,List.getD_eq_getElem?_getD,List.getElem?_eq_getElem oM];rfl
 refine FnOk.of_T [(0,_),(1,_)] func318 rfl ntmps318 sM rfl fun w0 hs =>T_drawS [0,1,2,3,4,5,6,7,8,9,10,11] hs kR ?_
 replace hs:=hs.drew
 refine Xr [0,1] [] hs rfl<|Xt 2 hs rfl (Y_quoU (c:=((x.toNat / 64:Nat):Int)) rfl rfl oM oM oM<|Xt 3 hs rfl (Y_nil rfl<|Xt 4 hs rfl (Y_idxArr' (x.toNat / 64) underlying104 sizeOf102 rfl rfl rfl oM<|Xt 5 hs rfl (Y_ld 0 isAgg102 rfl rfl hcell<|Xr [6] [] hs rfl<|Xt 7 hs rfl (Y_rem (c:=((x.toNat % 64:Nat):Int)) rfl rfl oM oM oM<|Xt 8 hs rfl (Y_shl1 (x.toNat % 64) oM rfl rfl<|Xt 9 hs rfl (Y_or64 rfl rfl<|Xt 10 hs rfl (Y_nil rfl<|Xt 11 hs rfl (Y_idxArr' (x.toNat / 64) underlying104 sizeOf102 rfl rfl rfl oM<|Xn 12 rfl (S_st hs sizeOf102 rfl rfl rfl Z40 (cs':=(addF c x).map u64V) (by unfold addF;rw [List.map_set]) fun _ hs =>A_done kR (Rt_finN (vs:=[]) results318 rfl trivial ?_)))))))))))
 try dsimp only [tup]
 exact ⟨_,_,hs,rfl⟩
theorem of_ok {G:Ghost} {v:Value} {l:List UInt8} (hb:Bytes G v l) (hl:l.length≤1000000000) :
  FnOk prog 299 [v] G [] fun r _ H'=>H'=[]∧r=ClsV (ofF l):=by
 obtain ⟨A,cap,rfl,_⟩:=id hb
 refine FnOk.of_T [(0,_)] func299 rfl ntmps299 sM rfl fun w0 hs=>?_
 have hb0:=hb
 refine Wt 2 [] hs rfl<|O_s (S_alloc hs zeroValue104 (cs:=(List.map u64V [0,0,0,0])) rfl fun b2 _ hs =>Wp 3 [0] hs rfl<|O_s (S_alloc hs zeroValue104 (cs:=(List.map u64V [0,0,0,0])) rfl fun b3 _ hs =>Wp 8 [0,0] hs rfl<|Zl [2,3,6,7,8] (fun m E w=>∃ (k:Nat) (G':Ghost),k≤l.length∧m=l.length-k∧E=⟨[],[(2,Vp b2),(3,Vp b3),(6,(.slice A l.length cap)),(7,Vi ((l.length:Nat):Int)),(8,Vi (k:Int))]⟩∧St ⟨w0,G,feet []⟩ G' [.blk b3 104 (List.map u64V (ofF (l.take k))),.blk b2 104 (List.map u64V [0,0,0,0])] w) rfl (⟨0,_,by omega,rfl,rfl,hs⟩) fun m E w hI=>?_))
 obtain ⟨k,G',hk,rfl,rfl,hs⟩:=hI
 have hb:=hb0.mono hs.le
 have h4:=ofF_len (l.take k)
 refine Wt 2 [] hs rfl<|Zy hs (Yc rfl (fun h9=>?_) fun h9=>?_)
 ·
  refine Wp 8 [0] hs rfl<|Zy hs (Y_idxB hb k underlying99 sizeOf5 rfl rfl rfl oM fun p10 hp10 =>Zy hs (Yg rfl (hp10)<|Wp 4 [0] hs rfl<|O_s (Sc (add_ok (x:=l[k]) (ofF_len _)) hs rfl fun v1 G' H' _ hR hG13 hs=>?_)))
  obtain rfl:=hR
  replace hs:=hs.n rfl
  refine Wp 2 [0] hs rfl<|Zy hs (Ya (s:=((k+1:Nat):Int)) rfl<|Wp 1 [] hs rfl<|Zx [2,3,6,7,8] rfl ⟨k+1,_,by omega,rfl,rfl,by unfold ofF;rw [foldl_take_succ _ _ l k oM];exact hs⟩)
 refine Wp 4 [0] hs rfl<|Wu 2 [] hs rfl<|Zy hs (Yk 0 rfl Z36<|O_n (Sw hs.f1 rfl (vs:=(List.map u64V (ofF (l.take k)))) Z36 Z36 (u64_all _) fun _ hs=>Wp 1 [0] hs rfl<|T_ret ?_))
 have hr:=hs
 refine Rt_fin (vs:=[_]) results299 rfl ⟨ResOk_blk 0 hr isAgg104 sizeOf104 rfl (cs:=(List.map u64V (ofF (l.take k)))) rfl Z36,trivial⟩ ?_
 try dsimp only [tup]
 obtain rfl:k=l.length:=by omega
 exact ⟨_,[],hs.done,rfl,by rw [List.take_length];rfl⟩
theorem comb_ok {G : Ghost} {a b : List Nat} {gf : Nat} {fnn : Func} {op : Nat → Nat → Nat} (ha : a.length = 4) (hb : b.length = 4) (hfn : prog.funcs[gf]? = some fnn) (hbd : fnn.body.isSome = true) (hnm : (fnn.name == "runtime.NumGoroutine") = false) (hg : ∀ (G' : Ghost) (x y : Nat), FnOk prog gf [u64V x, u64V y] G' [] fun r _ H' => H' = [] ∧ r = u64V (op x y)) :
  FnOk prog 294 [ClsV a,ClsV b,.func (.func gf) #[] #[]] G [] fun r _ H'=>H'=[]∧r=ClsV (List.zipWith op a b):=by
 refine FnOk.of_T [(0,_),(1,_),(2,_)] func294 rfl ntmps294 sM rfl fun w0 hs =>Wt 2 [] hs rfl<|O_s (S_box hs rfl (cs:=(List.map u64V a)) rfl fun b3 _ hs =>O_s (S_box hs rfl (cs:=(List.map u64V b)) rfl fun b4 _ hs =>O_s (S_alloc hs zeroValue104 (cs:=(List.map u64V [0,0,0,0])) rfl fun b6 _ hs =>Wp 3 [0] hs rfl<|O_s (S_alloc hs zeroValue104 (cs:=(List.map u64V [0,0,0,0])) rfl fun b7 _ hs =>Wp 6 [0,0] hs rfl<|Zl [2,3,4,6,7,9] (fun m E w=>∃ (k:Nat) (G':Ghost),k≤4∧m=4-k∧E=⟨[],[(2,.func (.func gf) #[] #[]),(3,Vp b3),(4,Vp b4),(6,Vp b6),(7,Vp b7),(9,Vi (k:Int))]⟩∧St ⟨w0,G,feet []⟩ G' [.blk b7 104 (List.map u64V ((List.zipWith op a b).take k++List.replicate (4-k) 0)),.blk b6 104 (List.map u64V [0,0,0,0]),.blk b4 104 (List.map u64V b),.blk b3 104 (List.map u64V a)] w) rfl (⟨0,_,by omega,rfl,rfl,by simpa using hs⟩) fun m E w hI=>?_))))
 obtain ⟨k,G',hk,rfl,rfl,hs⟩:=hI
 refine Wt 2 [] hs rfl<|Zy hs (Yc rfl (fun h10=>?_) fun h10=>?_)
 ·
  refine Wp 11 [0,0] hs rfl<|T_drawS [0,1,2,3,4,5,6,7,8,9] hs kR ?_
  replace hs:=hs.drew
  refine Xr [0,1,2] [] hs rfl<|Xt 3 hs rfl (Y_idxArr' k underlying104 sizeOf102 rfl rfl rfl oM<|Xt 4 hs rfl (Y_ld 3 isAgg102 rfl rfl (map_at a k oM)<|Xr [5] [] hs rfl<|Xt 6 hs rfl (Y_idxArr' k underlying104 sizeOf102 rfl rfl rfl oM<|Xt 7 hs rfl (Y_ld 2 isAgg102 rfl rfl (map_at b k oM) ?_))))
  have hle:=hs.le
  refine Xo 8 rfl (S_callV (args:=[_,_]) (lb:=[]) (H1:=[]) hs rfl rfl hfn hbd hnm (hg _ _ _) fun v1 G' H' _ hR hG20 hs=>?_)
  obtain ⟨rfl,rfl⟩:=hR
  replace hs:=hs.n rfl
  refine A_moreS hs hle hG20 (List.Sublist.refl _)<|Xt 9 hs rfl (Y_idxArr' k underlying104 sizeOf102 rfl rfl rfl oM<|Xn 10 rfl (S_st hs sizeOf102 rfl rfl rfl (by simp only [List.length_map,List.length_append,List.length_take,List.length_replicate,List.length_zipWith];omega) (cs':=_) rfl fun _ hs =>Xe (Zk [2,3,4,6,7,9] rfl ?_)))
  refine Zr<|Zy hs (Ya (s:=((k+1:Nat):Int)) rfl<|Wp 1 [] hs rfl<|Zx [2,3,4,6,7,9] rfl ⟨k+1,_,by omega,rfl,rfl,by rw [zip_step op a b k oM oM oM] at hs;exact hs⟩)
 refine Wp 4 [0] hs rfl<|Wu 2 [] hs rfl<|Zy hs (Yk 0 rfl Z36<|O_n (Sw hs.f1 rfl (vs:=(List.map u64V ((List.zipWith op a b).take k++List.replicate (4 - k) 0))) Z36 Z36 (u64_all _) fun _ hs=>Wp 1 [0] hs rfl<|T_ret ?_))
 have hr:=hs
 refine Rt_fin (vs:=[_]) results294 rfl ⟨ResOk_blk 0 hr isAgg104 sizeOf104 rfl (cs:=(List.map u64V ((List.zipWith op a b).take k++List.replicate (4-k) 0))) rfl Z36,trivial⟩ ?_
 try dsimp only [tup]
 obtain rfl:k=4:=by omega
 exact ⟨_,[],hs.done,rfl,by show ClsV _=_;rw [Nat.sub_self,List.replicate_zero,List.append_nil,List.take_of_length_le (by rw [List.length_zipWith];omega)]⟩
theorem not1_ok {G:Ghost} {x y:Nat} :
  FnOk prog 295 [u64V x,u64V y] G [] fun r _ H'=>H'=[]∧r=u64V (xor64 18446744073709551615 x):=by
 refine FnOk.of_T [(0,_),(1,_)] func295 rfl ntmps295 sM rfl fun w0 hs =>Wt 7 [0] hs rfl<|Zy hs (Y_compl64 rfl<|Wp 2 [0] hs rfl<|T_ret<|Zz results295 rfl ?_)
 exact ⟨_,[],hs.done,rfl,rfl⟩
theorem int1_ok {G:Ghost} {x y:Nat} :
  FnOk prog 296 [u64V x,u64V y] G [] fun r _ H'=>H'=[]∧r=u64V (and64 x y):=by
 refine FnOk.of_T [(0,_),(1,_)] func296 rfl ntmps296 sM rfl fun w0 hs =>Wt 8 [0] hs rfl<|Zy hs (Y_and64 rfl rfl<|Wp 2 [0] hs rfl<|T_ret<|Zz results296 rfl ?_)
 exact ⟨_,[],hs.done,rfl,rfl⟩
theorem uni1_ok {G:Ghost} {x y:Nat} :
  FnOk prog 302 [u64V x,u64V y] G [] fun r _ H'=>H'=[]∧r=u64V (or64 x y):=by
 refine FnOk.of_T [(0,_),(1,_)] func302 rfl ntmps302 sM rfl fun w0 hs =>Wt 8 [0] hs rfl<|Zy hs (Y_or64 rfl rfl<|Wp 2 [0] hs rfl<|T_ret<|Zz results302 rfl ?_)
 exact ⟨_,[],hs.done,rfl,rfl⟩
theorem not_ok {G:Ghost} {c:List Nat} (hc:c.length=4) :
  FnOk prog 270 [ClsV c] G [] fun r _ H'=>H'=[]∧r=ClsV (notF c):=by
 have hn:=notF_len hc
 refine FnOk.of_T [(0,_)] func270 rfl ntmps270 sM rfl fun w0 hs =>Wt 2 [] hs rfl<|O_s (S_box hs rfl (cs:=(List.map u64V c)) rfl fun b1 _ hs =>O_s (S_alloc hs zeroValue104 (cs:=(List.map u64V [0,0,0,0])) rfl fun b2 _ hs =>Wp 3 [0] hs rfl<|Zy hs (Yk 1 rfl Z36<|Zy hs (Yk 1 rfl Z36<|O_s (Sc (comb_ok hc hc func295 rfl kR (fun _ _ _=>not1_ok)) hs rfl fun v1 G' H' _ hR hG5 hs=>?_)))))
 obtain ⟨rfl,rfl⟩:=hR
 replace hs:=hs.n rfl
 refine O_n (Sw hs rfl (vs:=(List.map u64V (notF c))) Z36 Z36 (u64_all _) fun _ hs=>Wp 1 [0] hs rfl<|T_ret ?_)
 have hr:=hs
 refine Rt_fin (vs:=[_]) results270 rfl ⟨ResOk_blk 0 hr isAgg104 sizeOf104 rfl (cs:=(List.map u64V (notF c))) rfl Z36,trivial⟩ ?_
 try dsimp only [tup]
 exact ⟨_,[],hs.done,rfl,rfl⟩
theorem inter_ok {G:Ghost} {a b:List Nat} (ha:a.length=4) (hb:b.length=4) :
  FnOk prog 271 [ClsV a,ClsV b] G [] fun r _ H'=>H'=[]∧r=ClsV (interF a b):=by
 have hn:=interF_len ha hb
 refine FnOk.of_T [(0,_),(1,_)] func271 rfl ntmps271 sM rfl fun w0 hs =>Wt 2 [] hs rfl<|O_s (S_box hs rfl (cs:=(List.map u64V a)) rfl fun b2 _ hs =>O_s (S_box hs rfl (cs:=(List.map u64V b)) rfl fun b3 _ hs =>O_s (S_alloc hs zeroValue104 (cs:=(List.map u64V [0,0,0,0])) rfl fun b4 _ hs =>Wp 3 [0] hs rfl<|Zy hs (Yk 2 rfl Z36<|Zy hs (Yk 1 rfl Z36<|O_s (Sc (comb_ok ha hb func296 rfl kR (fun _ _ _=>int1_ok)) hs rfl fun v1 G' H' _ hR hG7 hs=>?_))))))
 obtain ⟨rfl,rfl⟩:=hR
 replace hs:=hs.n rfl
 refine O_n (Sw hs rfl (vs:=(List.map u64V (interF a b))) Z36 Z36 (u64_all _) fun _ hs=>Wp 1 [0] hs rfl<|T_ret ?_)
 have hr:=hs
 refine Rt_fin (vs:=[_]) results271 rfl ⟨ResOk_blk 0 hr isAgg104 sizeOf104 rfl (cs:=(List.map u64V (interF a b))) rfl Z36,trivial⟩ ?_
 try dsimp only [tup]
 exact ⟨_,[],hs.done,rfl,rfl⟩
theorem union_ok {G:Ghost} {a b:List Nat} (ha:a.length=4) (hb:b.length=4) :
  FnOk prog 280 [ClsV a,ClsV b] G [] fun r _ H'=>H'=[]∧r=ClsV (unionF a b):=by
 have hn:=unionF_len ha hb
 refine FnOk.of_T [(0,_),(1,_)] func280 rfl ntmps280 sM rfl fun w0 hs =>Wt 2 [] hs rfl<|O_s (S_box hs rfl (cs:=(List.map u64V a)) rfl fun b2 _ hs =>O_s (S_box hs rfl (cs:=(List.map u64V b)) rfl fun b3 _ hs =>O_s (S_alloc hs zeroValue104 (cs:=(List.map u64V [0,0,0,0])) rfl fun b4 _ hs =>Wp 3 [0] hs rfl<|Zy hs (Yk 2 rfl Z36<|Zy hs (Yk 1 rfl Z36<|O_s (Sc (comb_ok ha hb func302 rfl kR (fun _ _ _=>uni1_ok)) hs rfl fun v1 G' H' _ hR hG7 hs=>?_))))))
 obtain ⟨rfl,rfl⟩:=hR
 replace hs:=hs.n rfl
 refine O_n (Sw hs rfl (vs:=(List.map u64V (unionF a b))) Z36 Z36 (u64_all _) fun _ hs=>Wp 1 [0] hs rfl<|T_ret ?_)
 have hr:=hs
 refine Rt_fin (vs:=[_]) results280 rfl ⟨ResOk_blk 0 hr isAgg104 sizeOf104 rfl (cs:=(List.map u64V (unionF a b))) rfl Z36,trivial⟩ ?_
 try dsimp only [tup]
 exact ⟨_,[],hs.done,rfl,rfl⟩
theorem has_ok {G:Ghost} {c:List Nat} {x:UInt8} (hc:c.length=4) :
  FnOk prog 238 [ClsV c,.int .u8 (x.toNat:Int)] G [] fun r _ H'=>H'=[]∧r=.bool (hasF c x):=by
 have hx:=x.toNat_lt
 have hcell:(c.map u64V)[x.toNat / 64]?=some (u64V (c.getD (x.toNat / 64) 0)):=by rw [List.getElem?_map,List.getElem?_eq_getElem oM,List.getD_eq_getElem?_getD,List.getElem?_eq_getElem oM];rfl
 refine FnOk.of_T [(0,_),(1,_)] func238 rfl ntmps238 sM rfl fun w0 hs =>Wt 2 [] hs rfl<|O_s (S_box hs rfl (cs:=(List.map u64V c)) rfl fun b2 _ hs =>Wp 5 [0] hs rfl<|Zy hs (Y_quoU (c:=((x.toNat / 64:Nat):Int)) rfl rfl oM oM oM<|Zy hs (Y_idxArr' (x.toNat / 64) underlying104 sizeOf102 rfl rfl rfl oM<|Zy hs (Y_ld 0 isAgg102 rfl rfl hcell<|Wp 1 [] hs rfl<|Zy hs (Y_rem (c:=((x.toNat % 64:Nat):Int)) rfl rfl oM oM oM<|Zy hs (Y_shl1 (x.toNat % 64) oM rfl rfl<|Zy hs (Y_and64 rfl rfl<|Zy hs (Y_cmpB (t:=hasF c x) rfl rfl rfl (has_iff c x)<|Wp 2 [0] hs rfl<|T_ret<|Zz results238 rfl ?_))))))))
 exact ⟨_,[],hs.done,rfl,rfl⟩
theorem memb_ok {G:Ghost} {c:List Nat} (hc:c.length=4) :
  FnOk prog 279 [ClsV c] G [] fun r G' H'=>H'=[]∧∃ b,r=.func (.func 300) #[] #[Vp b]∧ClsAt G' b c:=by
 refine FnOk.of_T [(0,_)] func279 rfl ntmps279 sM rfl fun w0 hs =>Wt 2 [] hs rfl<|O_s (S_box hs rfl (cs:=(List.map u64V c)) rfl fun b1 _ hs =>Wp 4 [0] hs rfl<|Zy hs (Y_makeFunc (vs:=[_]) rfl<|Wp 2 [0] hs rfl<|T_ret<|Zz results279 rfl ?_))
 obtain ⟨G',hG,hf,hs3⟩:=hs.fixBlk (fun k _=>noMb k)
 exact ⟨G',[],hs3,rfl,_,rfl,hf⟩
theorem mem1_ok {lp b:Nat} {G:Ghost} {c:List Nat} {H0:List Res} {J:Nat→Ghost→List Res→Prop} (hcb:ClsAt G b c) (hc:c.length=4) (hw:∀ w∈c,w<W64) (hT:Tab G) (hJm:∀ n G1 G2 H,Ghost.le G1 G2→J n G1 H→J n G2 H)
  (hY:∀ n a G' H',(bytesF c)[n]?=some a→G.le G'→J n G' H'→YieldOk prog lp [.int .u8 (a.toNat:Int)] G' H' fun r G'' H''=>r=Vt∧J (n+1) G'' H'') (hJ0:J 0 G H0) :
  FnOk prog 300 [.func (.yield lp) #[] #[],Vp b] G H0 fun _ G' H'=>J (bytesF c).length G' H':=by
 refine FnOk.of_T [(0,_),(1,_)] func300 rfl ntmps300 sM rfl fun w0 hs=>?_
 have hcb0:=hcb
 have hT0:=hT
 refine Wt 2 [] hs rfl<|Zy hs (Y_ldAG (vs:=List.map u64V c) isAgg104 sizeOf104 rfl hcb.whole (by rw [List.length_map,hc])<|Wp 2 [0] hs rfl<|Zl [0,5,6] (fun m E w=>∃ (k n:Nat) (G':Ghost) (H':List Res),k≤4∧(bytesF c).drop n=bytesG k (c.drop k)∧n≤(bytesF c).length∧J n G' H'∧m=4-k∧E=⟨[],[(0,.func (.yield lp) #[] #[]),(5,(ClsV c)),(6,Vi (k:Int))]⟩∧St ⟨w0,G,feet H0⟩ G' H' w) rfl (⟨0,0,_,_,by omega,rfl,by omega,hJ0,rfl,rfl,hs⟩) fun m E w hI=>?_)
 obtain ⟨k,n,G',H',hk,hd,hnl,hJ,rfl,rfl,hs⟩:=hI
 have hcb:=hcb0.mono hs.le
 have hT:=hT0.mono hs.le
 refine Wt 2 [] hs rfl<|Zy hs (Yc rfl (fun h7=>?_) fun h7=>?_)
 ·
  refine Wp 9 [0] hs rfl<|Zy hs (Y_indexV (vs:=List.map u64V c) (v:=u64V c[k]) k underlying104 isAgg102 sizeOf102 rfl rfl rfl oM (map_at c k oM)<|Wp 3 [0] hs rfl ?_)
  have hwk:=hw c[k] (List.getElem_mem (show k<c.length by omega))
  rw [List.drop_eq_getElem_cons (show k<c.length by omega),bytesG] at hd
  refine Zl [0,3,4,5,6] (fun m E w=>∃ (n f wd:Nat) (G':Ghost) (H':List Res),(bytesF c).drop n=memF k f wd++bytesG (k+1) (c.drop (k+1))∧wd≤f∧wd<W64∧n≤(bytesF c).length∧J n G' H'∧m=wd∧E=⟨[],[(0,.func (.yield lp) #[] #[]),(3,Vi (k:Int)),(4,u64V wd),(5,(ClsV c)),(6,Vi (k:Int))]⟩∧St ⟨w0,G,feet H0⟩ G' H' w) rfl (⟨n,c[k],c[k],_,_,hd,Nat.le_refl _,hwk,hnl,hJ,rfl,rfl,hs⟩) fun m E w hI=>?_
  obtain ⟨n,f,wd,G',H',hd,hwf,hww,hnl,hJ,hmw,rfl,hs⟩:=hI
  have hcb:=hcb0.mono hs.le
  have hT:=hT0.mono hs.le
  refine Wt 4 [] hs rfl<|Zy hs (Yc rfl (fun h11=>?_) fun h11=>?_)
  ·
   obtain ⟨f,rfl⟩:∃ q,f=q+1:=⟨f-1,by omega⟩
   rw [memF,if_neg oM,List.cons_append] at hd
   obtain ⟨hn,hst,hd⟩:=mem_step hd
   replace hst:(bytesF c)[n]?=some (UInt8.ofNat (64*k+tzF wd)):=by rw [List.getElem?_eq_getElem hn,hst]
   have htz:=tzF_le wd
   refine Wp 9 [0] hs rfl<|Zy hs (Y_mul (c:=((64*k:Nat):Int)) rfl rfl oM oM<|Wp 1 [] hs rfl<|O_s (S_call (H1:=[]) (H:=H') hs rfl func301 rfl kR (tz_ok hT) fun v1 G' H' _ hR hG16 hs=>?_))
   obtain ⟨rfl,rfl⟩:=hR
   replace hs:St _ _ H' _:=hs
   replace hJ:=hJm _ _ _ _ hG16 hJ
   refine Zy hs (Ya (s:=((64*k+tzF wd:Nat):Int)) rfl<|Zy hs (Y_conv underlying3 underlying5 (c:=((UInt8.ofNat (64*k+tzF wd)).toNat:Int)) rfl (u8wrap _)<|O_s (S_yield (H1:=H') (H:=[]) (by rw [List.append_nil];exact hs) rfl rfl (hY n _ _ _ hst hs.le hJ) fun v G'' H'' w' hR hG19 hs=>?_)))
   obtain ⟨rfl,hJ⟩:=hR
   rw [List.append_nil] at hs
   refine Wp 7 [0] hs rfl<|Zy hs (Y_sub64 (b:=1) rfl rfl<|Zy hs (Y_and64 rfl rfl<|Wp 1 [] hs rfl ?_))
   have h1:=and64_le wd (sub64 wd 1)
   rw [sub_one oM hww] at h1
   refine O_nil ⟨_,?_,[(0,_),(3,_),(4,_),(5,_),(6,_)],⟨rfl,rfl,rfl,rfl,rfl,trivial⟩,⟨n+1,f,_,_,_,hd,by rw [sub_one oM hww];omega,and64_lt _ _,by omega,hJ,rfl,rfl,hs⟩⟩
   rw [sub_one oM hww];omega
  refine Wp 3 [0] hs rfl ?_
  refine Zr<|Zy hs (Ya (s:=((k+1:Nat):Int)) rfl<|Wp 1 [] hs rfl ?_)
  obtain rfl:wd=0:=by omega
  rw [memF_zero,List.nil_append] at hd
  refine Zx [0,5,6] rfl ⟨k+1,n,_,_,by omega,hd,hnl,hJ,rfl,rfl,hs⟩
 refine Wp 4 [0] hs rfl ?_
 try dsimp only [Ex.At,Ex.sqs,Ex.sq,Ex.lp,Ex.bk]
 try rw [show Nat.beq _ _=true from Nat.beq_refl _,cond_true]
 refine Rt_finN (vs:=[]) results300 rfl trivial ?_
 try dsimp only [tup]
 obtain rfl:k=4:=by omega
 rw [List.drop_eq_nil_of_le (by omega:c.length≤4)] at hd
 have hn:=List.drop_eq_nil_iff.1 hd
 obtain rfl:n=(bytesF c).length:=by omega
 exact ⟨_,_,hs,hJ⟩
theorem aseq_ok {b:Nat} {G:Ghost} {c:List Nat} (hcb:ClsAt G b c) (hc:c.length=4) (hw:∀ w∈c,w<W64) (hT:Tab G) :
  FnOk prog 319 [Vn,.func (.func 300) #[] #[Vp b]] G [] fun r G' H'=>H'=[]∧Bytes G' r (bytesF c):=by
 have hbl:=bytesF_len hc hw
 refine FnOk.of_TM [(0,_),(1,_)] func319 rfl ntmps319 sM rfl fun w0 hs =>Wt 2 [] hs rfl<|O_s (Sb hs rfl fun b2 _ hs=>Wp 7 [0,0] hs rfl ?_)
 have hs:=hs.nilRow 5 1
 have hs:=hs.f1.f1
 refine Wu 1 [] hs rfl<|T_rangeFunc (H1:=[_,_]) (H:=[]) (R:=fun G' H2=>∃ (v:Value),H2=[.row 5 1 v (bytesF c).length (((bytesF c).take (bytesF c).length).map byteV),.blk b2 99 [v]]) hs rfl func300 rfl kR ?hit ?done
 case hit =>
  intro lp D rec hp ha hbd hst hpe hAg
  obtain ⟨state,pending,fn',tmps,params,assign,body,defers⟩:=rec
  dsimp only at hp ha hbd hst hpe hAg
  subst hst hpe
  refine FnOk.mono (mem1_ok (lp:=lp) (J:=fun n G' H'=>n≤(bytesF c).length∧∃ (v:Value),H'=[.obj lp (.loop { state:=.ready,pending:=none,fn:=fn',tmps:=tmps,params:=params,assign:=assign,body:=body,defers:=defers }),.obj D (.deferred (some [])),.row 5 1 v n (((bytesF c).take n).map byteV),.blk b2 99 [v]]) hcb hc hw hT (fun _ _ _ _ _ h=>h) ?round ⟨by omega,_,rfl⟩) ?fin
  case fin =>
   rintro r G' H' _ ⟨_,v,rfl⟩
   exact ⟨_,rfl,v,rfl⟩
  rintro n a G' H' hst hle ⟨hnl,v7,rfl⟩
  obtain ⟨hn,ha'⟩:=List.getElem?_eq_some_iff.1 hst
  subst hp ha hbd
  refine YieldOk.of_T hAg rfl rfl sM rfl fun w1 hs =>Wt 2 [] hs rfl<|O_nil ⟨hs,fun w2 hs=>?_⟩
  refine Wt 4 [3] hs rfl<|O_s (S_lit hs underlying99 sizeOf5 zeroValue5 rfl rfl dC dC rfl (cs:=[_]) rfl rfl fun v1 _ hs _=>?_)
  obtain ⟨_,hG10,hl10,hs⟩:=hs.fixRow (noMh hs ⟨fun _ h=>h,fun _ h=>h,fun _ h=>h,fun _ h=>h,trivial⟩)
  refine O_s (S_append hs.f2 underlying99 TI5 rfl dC rfl rfl (hl10) (one1 rfl) oM oM fun v2 _ hs =>O_n (Sd hs.f3 rfl (hs.f3.rowOne 1 rfl) fun _ hs=>?_))
  have hs:=hs.f1.f3.f3
  refine O_nil ⟨_,_,hs,rfl,hn,v2,?_⟩
  rw [take_map_succ _ n hn,ha']
 case done =>
  rintro lp D o' G' H2 w' ⟨v7,rfl⟩ hle hs
  refine Wt 5 [3,0] hs rfl<|T_ret<|RtM_fin hs (vs:=[_]) results319 rfl (fun _ hs=>⟨⟨rfl,trivial⟩,?_⟩)
  try dsimp only [tup]
  have hs:=hs.f1
  obtain ⟨G',hG,hf,hs3⟩:=hs.fixRow noM
  exact ⟨G',[],hs3.done,rfl,Bytes.ofSl hf rfl (by rw [List.take_length])⟩
theorem coll_ok {b:Nat} {G:Ghost} {c:List Nat} (hcb:ClsAt G b c) (hc:c.length=4) (hw:∀ w∈c,w<W64) (hT:Tab G) :
  FnOk prog 303 [.func (.func 300) #[] #[Vp b]] G [] fun r G' H'=>H'=[]∧Bytes G' r (bytesF c):=by
 refine FnOk.of_T [(0,_)] func303 rfl ntmps303 sM rfl fun w0 hs=>?_
 have hcb0:=hcb
 have hT0:=hT
 refine Wt 7 [0] hs rfl<|O_s (Sc (aseq_ok hcb hc hw hT) hs rfl fun v1 G' H' _ hR hG4 hs=>?_)
 obtain ⟨rfl,hb⟩:=hR
 replace hs:=hs.n rfl
 refine Wp 2 [0] hs rfl<|T_ret<|Zz results303 rfl ?_
 exact ⟨_,[],hs.done,rfl,hb⟩
theorem bytes_ok {G:Ghost} {c:List Nat} (hc:c.length=4) (hw:∀ w∈c,w<W64) (hT:Tab G) :
  FnOk prog 281 [ClsV c] G [] fun r G' H'=>H'=[]∧Bytes G' r (bytesF c):=by
 refine FnOk.of_T [(0,_)] func281 rfl ntmps281 sM rfl fun w0 hs=>?_
 have hT0:=hT
 refine Wt 2 [] hs rfl<|O_s (S_box hs rfl (cs:=(List.map u64V c)) rfl fun b1 _ hs =>Wp 4 [0] hs rfl<|Zy hs (Yk 0 rfl Z36<|O_s (Sc (memb_ok hc) hs rfl fun v1 G' H' _ hR hG4 hs=>?_)))
 obtain ⟨rfl,b,rfl,hcb⟩:=hR
 replace hs:=hs.n rfl
 replace hT:=hT.mono hG4
 refine O_s (Sc (coll_ok hcb hc hw hT) hs rfl fun v2 G' H' _ hR hG5 hs=>?_)
 obtain ⟨rfl,hb⟩:=hR
 replace hs:=hs.n rfl
 refine Wp 2 [0] hs rfl<|T_ret<|Zz results281 rfl ?_
 exact ⟨_,[],hs.done,rfl,hb⟩
theorem TI104:TI prog 104 (.agg #[.int .u64 0,.int .u64 0,.int .u64 0,.int .u64 0]) 4 32:=TI.of kR
theorem TI3:TI prog 3 (Vi 0) 1 8:=TI.of kR
theorem TI4:TI prog 4 (Vf) 1 1:=TI.of kR
def i64n (n:Nat):Value:=Vi (n:Int)
abbrev natV (n:Nat):Value:=Vi (n:Int)
def boolV (b:Bool):Value:=.bool b
def Bools (G:Ghost) (v:Value) (l:List Bool):Prop:=Sl G v 1 l.length (l.map boolV)
theorem Bools.mono {G G':Ghost} (h:G.le G') {v:Value} {l:List Bool} (hb:Bools G v l):Bools G' v l:=Sl.mono h hb
def NatsR (G:Ghost) (c:List Value) (l:List Nat):Prop:=∃ v,c=[v]∧Nats G v l
def LN (G:Ghost) (v:Value) (l:List (List Nat)):Prop:=LstR 1 NatsR G v l
theorem LN.mono {G G':Ghost} (h:G.le G') {v:Value} {l:List (List Nat)} (hl:LN G v l):LN G' v l:=LstR.mono (fun _ _ ⟨v,e,hn⟩=>⟨v,e,hn.mono h⟩) h hl
def tabC (cell:List Nat) (n:Nat) (vn va:Value):List Value:=cell.map i64n++[Vi (n:Int),vn,va]
theorem tabC_1 {cell:List Nat} {n:Nat} {vn va:Value} (h:cell.length=256):(tabC cell n vn va)[256]?=some (Vi (n:Int)):=by
  unfold tabC;rw [List.getElem?_append_right Z40,List.length_map,h];rfl
theorem tabC_2 {cell:List Nat} {n:Nat} {vn va:Value} (h:cell.length=256):(tabC cell n vn va)[257]?=some vn:=by
  unfold tabC;rw [List.getElem?_append_right Z40,List.length_map,h];rfl
theorem tabC_3 {cell:List Nat} {n:Nat} {vn va:Value} (h:cell.length=256):(tabC cell n vn va)[258]?=some va:=by
  unfold tabC;rw [List.getElem?_append_right Z40,List.length_map,h];rfl
theorem tabC_c {cell:List Nat} {n k:Nat} {vn va:Value} (h:cell.length=256) (hk:k<256):(tabC cell n vn va)[k]?=some (i64n (cell.getD k 0)):=by
  unfold tabC;rw [List.getElem?_append_left Z40,List.getElem?_map,List.getElem?_eq_getElem oM,List.getD_eq_getElem?_getD,List.getElem?_eq_getElem oM];rfl
theorem tabC_len {cell:List Nat} {n:Nat} {vn va:Value} (h:cell.length=256):(tabC cell n vn va).length=259:=by unfold tabC;simp [h]
def TbR (G:Ghost) (v:Value) (t:Tb):Prop:=∃ vn va,v=.agg (tabC t.cell t.cells vn va).toArray∧t.cell.length=256∧LN G vn t.next∧Bools G va t.acc
theorem TbR.mono {G G':Ghost} (h:G.le G') {v:Value} {t:Tb} (ht:TbR G v t):TbR G' v t:=by
  obtain ⟨vn,va,e,h1,h2,h3⟩:=ht
  exact ⟨vn,va,e,h1,h2.mono h,h3.mono h⟩
theorem nat_row {l:List Nat} {i:Nat} (h:i<l.length):(l.map natV)[i]?=some (natV (l[i]'h)):=by rw [List.getElem?_map,List.getElem?_eq_getElem h];rfl
theorem bool_row {l:List Bool} {i:Nat} (h:i<l.length):(l.map boolV)[i]?=some (.bool (l[i]'h)):=by rw [List.getElem?_map,List.getElem?_eq_getElem h];rfl
theorem rep_bool (n:Nat):List.replicate n (Value.bool false)=(List.replicate n false).map boolV:=by rw [List.map_replicate];rfl
theorem rep_nat (n:Nat):List.replicate n (Value.int .i64 0)=(List.replicate n 0).map natV:=by rw [List.map_replicate];rfl
theorem getD_lt {α:Type} {l:List α} {i:Nat} {d:α} (h:i<l.length):l.getD i d=l[i]:=by rw [List.getD_eq_getElem?_getD,List.getElem?_eq_getElem h];rfl
def Tb.ok (t:Tb):Prop:=1≤t.next.length∧t.next.length≤5000∧t.acc.length=t.next.length∧t.cells≤256∧(∀ r∈t.next,r.length=t.cells∧∀ x∈r,x<t.next.length)∧∀ c∈t.cell,c<t.cells
theorem rchP_no {st:Rch} {x:Nat} (h:x<st.1.length) (hx:st.1[x]=true):rchP st x=st:=by unfold rchP;rw [getD_lt h,if_pos hx]
theorem rchP_yes {st:Rch} {x:Nat} (h:x<st.1.length) (hx:st.1[x]=false):rchP st x=(st.1.set x true,st.2++[x]):=by unfold rchP;rw [getD_lt h,hx];rfl
theorem cnt_set {l:List Bool} {x:Nat} (h:x<l.length) (hx:l[x]=false):(l.set x true).count false+1=l.count false:=by
  rw [List.count_set (h:=h),hx]
  have:0<l.count false:=List.count_pos_iff.2 (by rw [← hx];exact List.getElem_mem h)
  simp;omega
theorem rchG_go {t:Tb} {f i:Nat} {seen:List Bool} {l:List Nat} (h:i<l.length) (hs:l[i]<t.next.length):rchG t (f+1) i (seen,l)=rchG t f (i+1) ((t.next[l[i]]'hs).foldl rchP (seen,l)):=by
  rw [rchG,if_pos h,getD_lt h,getD_lt hs]
theorem rchG_end {t:Tb} {f i:Nat} {seen:List Bool} {l L:List Nat} (h:l.length≤i) (hr:rchG t f i (seen,l)=some L):L=l:=by
  cases f with
  | zero=>cases hr
  | succ f=>rw [rchG,if_neg Z47] at hr;injection hr with hr;exact hr.symm
theorem rchG_pos {t:Tb} {f i:Nat} {st:Rch} {L:List Nat} (hr:rchG t f i st=some L):0<f:=by
  cases f with
  | zero=>cases hr
  | succ f=>omega
theorem take_foldl_succ {α β:Type} (f:β→α→β) (z:β) (l:List α) (k:Nat) (h:k<l.length):(l.take (k+1)).foldl f z=f ((l.take k).foldl f z) l[k]:=foldl_take_succ f z l k h
theorem rch_ok {G:Ghost} {v:Value} {t:Tb} {L:List Nat} (ht:TbR G v t) (hok:t.ok) (hL:reachF t=some L) :
  FnOk prog 276 [v] G [] fun r G' H'=>H'=[]∧Nats G' r L:=by
 obtain ⟨un,ua,rfl,hcl,hN,hA⟩:=ht
 obtain ⟨An,cn,rfl⟩:=LstR.slice hN
 obtain ⟨Aa,ca,rfl,_⟩:=id hA
 obtain ⟨hn1,hn2,_,_,hrows,_⟩:=hok
 unfold reachF at hL
 refine FnOk.of_T [(0,_)] func276 rfl ntmps276 sM rfl fun w0 hs=>?_
 have hN0:=hN
 refine Wt 2 [] hs rfl<|O_s (S_box hs rfl (cs:=_) rfl fun b1 _ hs =>Wp 5 [0,257] hs rfl<|Zy hs (Y_ld 0 isAgg36 rfl rfl (tabC_2 hcl)<|Wp 1 [] hs rfl<|O_s (S_make (n:=t.next.length) (m:=t.next.length) hs underlying94 TI4 rfl rfl rfl oM oM oM fun b11 _ hs =>Wp 5 [0] hs rfl<|Zy hs (Y_idxRow (0) underlying94 sizeOf4 rfl rfl rfl oM<|O_n (S_stRow hs sizeOf4 rfl rfl rfl oM fun _ hs =>Wp 3 [0] hs rfl<|O_s (S_lit hs underlying45 sizeOf3 zeroValue3 rfl rfl dC dC rfl (cs:=[_]) rfl rfl fun v1 _ hs _ =>Wp 7 [0,0] hs rfl ?_))))))
 have hs:=hs.f2.f1.f2
 have hc0:((List.replicate t.next.length false).set 0 true).count false+1=t.next.length:=by rw [cnt_set Z50 sM];simp
 rw [rep_bool] at hs
 refine Zl [1,3,4,5] (fun m E w=>∃ (f i:Nat) (sn:List Bool) (l:List Nat) (v4:Value) (G2:Ghost),rchG t f i (sn,l)=some L∧sn.length=t.next.length∧(∀ x∈l,x<t.next.length)∧l.length+sn.count false=t.next.length∧i≤l.length∧m=f∧E=⟨[],[(1,Vp b1),(3,Vs b11 t.next.length t.next.length),(4,v4),(5,Vi (i:Int))]⟩∧St ⟨w0,G,feet []⟩ G2 [.row 4 1 (Vs b11 t.next.length t.next.length) t.next.length (sn.map boolV),.row 3 1 (v4) l.length (l.map natV),.blk b1 276 (tabC t.cell t.cells (.slice An t.next.length cn) (.slice Aa t.acc.length ca))] w) rfl (⟨t.next.length+1,0,_,[0],_,_,hL,by simp,by intro x hx;rw [List.mem_singleton.1 hx];omega,by simp only [List.length_singleton];omega,by omega,rfl,rfl,by rw [List.map_set];exact hs⟩) fun m E w hI=>?_
 obtain ⟨f,i,sn,l,v4,G2,hrg,hsl,hlN,hcn,hil,rfl,rfl,hs⟩:=hI
 have hN:=hN0.mono hs.le
 refine Wt 5 [] hs rfl<|Zy hs (Y_lenOwn 1 rfl underlying45 rfl hs<|Zy hs (Yc rfl (fun h18=>?_) fun h18=>?_))
 ·
  refine Wp 3 [0] hs rfl ?_
  obtain ⟨s,hse⟩:∃ s,s=l[i]'oM:=⟨_,rfl⟩
  have hsN:s<t.next.length:=hlN s Z31
  refine Wu 3 [] hs rfl<|T_drawS [0,1,2,3,4,5,6,7,8,9] hs kR ?_
  replace hs:=hs.drew
  refine Xr [0] [257] hs rfl<|Xt 1 hs rfl (Y_ld 2 isAgg36 rfl rfl (tabC_2 hcl)<|Xr [2,3] [] hs rfl<|Xt 4 hs rfl (Y_idxOwn (j:=((i:Nat):Int)) (i) 1 rfl underlying45 sizeOf3 rfl rfl rfl oM (u:=natV s) (by rw [hse];exact nat_row oM) hs fun p25 hp25 =>Xt 5 hs rfl (Y_ldOwn isAgg3 rfl hp25<|Xt 6 hs rfl (Y_idxS hN s underlying36 sizeOf45 rfl rfl rfl hsN fun p27 c27 hp27 hc27 hR27=>?_))))
  obtain ⟨rr,hre⟩:∃ r,r=t.next[s]'hsN:=⟨_,rfl⟩
  rw [← hre] at hR27
  have hrl:rr.length≤256:=by have h:=(hrows rr Z32).1;omega
  obtain ⟨u28,rfl,hr⟩:=hR27
  obtain ⟨A28,c28,rfl,_⟩:=id hr
  refine Xt 7 hs rfl (Yg rfl (hp27 0 (.slice A28 rr.length c28) rfl)<|Xr [8,9] [] hs rfl<|Xe (Zk [1,3,4,5,28,29,30] rfl ?_))
  have hs:=hs.f2.f2.f2
  refine Zl [1,3,4,5,28,29,30] (fun m E w=>∃ (k:Nat) (sn2:List Bool) (l2:List Nat) (v4:Value) (G2:Ghost),k≤rr.length∧(sn2,l2)=(rr.take k).foldl rchP (sn,l)∧sn2.length=t.next.length∧(∀ x∈l2,x<t.next.length)∧l2.length+sn2.count false=t.next.length∧i+1≤l2.length∧Nats G2 (.slice A28 rr.length c28) rr∧m=rr.length-k∧E=⟨[],[(1,Vp b1),(3,Vs b11 t.next.length t.next.length),(4,v4),(5,Vi (i:Int)),(28,.slice A28 rr.length c28),(29,Vi ((rr.length:Nat):Int)),(30,Vi (k:Int))]⟩∧St ⟨w0,G,feet []⟩ G2 [.row 4 1 (Vs b11 t.next.length t.next.length) t.next.length (sn2.map boolV),.row 3 1 (v4) l2.length (l2.map natV),.blk b1 276 (tabC t.cell t.cells (.slice An t.next.length cn) (.slice Aa t.acc.length ca))] w) rfl (⟨0,sn,l,_,_,by omega,rfl,hsl,hlN,hcn,by omega,hr,rfl,rfl,hs⟩) fun m E w hI=>?_
  obtain ⟨k,sn2,l2,v4,G2,hk,hfo,hsl2,hlN2,hcn2,hil2,hr,rfl,rfl,hs⟩:=hI
  have hN:=hN0.mono hs.le
  refine Wt 2 [] hs rfl<|Zy hs (Yc rfl (fun h31=>?_) fun h31=>?_)
  ·
   refine Wp 8 [0] hs rfl<|Zy hs (Y_idxN hr k underlying45 sizeOf3 rfl rfl rfl oM fun p32 hp32=>?_)
   obtain ⟨x,hxe⟩:∃ x,x=rr[k]'oM:=⟨_,rfl⟩
   rw [← hxe] at hp32
   have hxN:x<t.next.length:=(hrows rr Z32).2 x Z33
   refine Zy hs (Yg rfl (hp32)<|Wp 6 [0] hs rfl<|Zy hs (Y_idxRow (x) underlying94 sizeOf4 rfl rfl rfl oM ?_))
   obtain ⟨q37,hq37⟩:∃ q,q=sn2[x]'oM:=⟨_,rfl⟩
   refine Zy hs (Y_ldRow 0 rfl isAgg4 rfl (show (sn2.map boolV)[x]?=some (.bool q37) from by rw [hq37];exact bool_row oM) ?_)
   cases q37
   ·
    refine Wp 7 [0] hs rfl<|Zy hs (Y_idxRow (x) underlying94 sizeOf4 rfl rfl rfl oM<|O_n (S_stRow hs sizeOf4 rfl rfl rfl oM fun _ hs =>Wp 4 [0] hs rfl<|O_s (S_lit hs underlying45 sizeOf3 zeroValue3 rfl rfl dC dC rfl (cs:=[_]) rfl rfl fun v2 _ hs _=>?_)))
    obtain ⟨_,hG44,hl44,hs⟩:=hs.fixRow noM
    replace hr:=hr.mono hG44
    refine O_s (S_append hs.f1 underlying45 TI3 rfl dC rfl rfl (hl44) (one1 rfl) oM oM fun v3 _ hs =>Wp 3 [0] hs rfl<|Zy hs (Ya (s:=((k+1:Nat):Int)) rfl<|Wp 1 [] hs rfl ?_))
    have hs:=hs.f2.f1.f2
    have hst:=rchP_yes (st:=(sn2,l2)) (x:=x) Z47 hq37.symm
    have hcn2:=cnt_set (l:=sn2) (x:=x) oM hq37.symm
    refine Zx [1,3,4,5,28,29,30] rfl ⟨k+1,sn2.set x true,l2++[x],_,_,by omega,by rw [take_foldl_succ _ _ _ _ oM,← hxe,← hfo,hst],by rw [List.length_set];exact hsl2,by intro y hy;rcases List.mem_append.1 hy with hy | hy;exact hlN2 y hy;rw [List.mem_singleton.1 hy];exact hxN,by rw [List.length_append,List.length_singleton];omega,by rw [List.length_append];omega,hr,rfl,rfl,by simpa [List.map_set,natV,boolV] using hs.weak hs.le (Ghost.le.refl _) (List.sublist_append_left [_,_,_] _)⟩
   refine Wp 5 [0] hs rfl<|Zy hs (Ya (s:=((k+1:Nat):Int)) rfl<|Wp 1 [] hs rfl ?_)
   have hs:=hs.f2.f2.f2
   have hst:=rchP_no (st:=(sn2,l2)) (x:=x) Z47 hq37.symm
   refine Zx [1,3,4,5,28,29,30] rfl ⟨k+1,sn2,l2,_,_,by omega,by rw [take_foldl_succ _ _ _ _ oM,← hxe,← hfo,hst],hsl2,hlN2,hcn2,hil2,hr,rfl,rfl,hs⟩
  refine Wp 4 [0] hs rfl<|Wu 2 [] hs rfl<|Zy hs (Ya (s:=((i+1:Nat):Int)) rfl<|Wp 1 [] hs rfl ?_)
  have hs:=hs.f2.f2.f2
  obtain rfl:k=rr.length:=by omega
  rw [List.take_length] at hfo
  have hfp:=rchG_pos hrg
  obtain ⟨f1,rfl⟩:∃ g,m=g+1:=⟨m-1,by omega⟩
  have hgo:=(rchG_go (f:=f1) (seen:=sn) (show i<l.length by omega) (by rw [← hse];exact hsN)).symm.trans hrg
  simp only [← hse,← hre,← hfo] at hgo
  refine Zx [1,3,4,5] rfl ⟨f1,i+1,sn2,l2,_,_,hgo,hsl2,hlN2,hcn2,hil2,rfl,rfl,hs⟩
 refine Wp 3 [0] hs rfl<|Wu 5 [0] hs rfl<|T_ret ?_
 have hs:=hs.f1
 refine Zz results276 rfl ?_
 obtain rfl:=rchG_end oM hrg
 obtain ⟨G9,hG9,hf,hs⟩:=hs.fixRow noM
 exact ⟨_,[],hs.done,rfl,hf⟩
theorem one2 {a b:Int} {k:IntKind}:∀ y∈[Value.int k a,.int k b],y.oneCell'=true:=by
  intro y hy
  simp only [List.mem_cons,List.not_mem_nil,or_false] at hy
  rcases hy with rfl | rfl<;>rfl
theorem shr_8 (x:Nat):((x:Int)).fdiv (2 ^ (min (8:Int).toNat IntKind.i64.bits))=((x / 256:Nat):Int):=by
  show ((x:Int)).fdiv 256=_
  rw [Int.fdiv_eq_ediv_of_nonneg _ dC];omega
theorem keyS:KeyT prog 9 strK:=KeyT.str underlying9
theorem rfB_succ {t:Tb} {l:List Nat} {k:Nat} (h:k<l.length) (b:List Nat):(l.take (k+1)).foldl (fun b s=>if t.acc.getD s false=true then b.set s 1 else b) b=(fun b s=>if t.acc.getD s false=true then b.set s 1 else b) ((l.take k).foldl (fun b s=>if t.acc.getD s false=true then b.set s 1 else b) b) l[k]:=foldl_take_succ _ _ _ _ h
theorem rfP_old {t:Tb} {bl nx rp:List Nat} {ks:List (List UInt8)} {s:Nat} (h:posK (keyF t bl s) ks<ks.length):rfP t bl ⟨ks,nx,rp⟩ s=⟨ks,nx.set s (posK (keyF t bl s) ks),rp⟩:=by
  unfold rfP;simp only [if_pos h]
theorem rfP_new {t:Tb} {bl nx rp:List Nat} {ks:List (List UInt8)} {s:Nat} (h:¬ posK (keyF t bl s) ks<ks.length):rfP t bl ⟨ks,nx,rp⟩ s=⟨ks++[keyF t bl s],nx.set s rp.length,rp++[s]⟩:=by
  unfold rfP;simp only [if_neg h]
theorem key_nodup {α:Type} [DecidableEq α] {k:α} {ks:List α} (hn:ks.Nodup) (h:¬ posK k ks<ks.length):(ks++[k]).Nodup:=by
  rw [List.nodup_append]
  refine ⟨hn,by simp,fun a ha b hb=>?_⟩
  obtain rfl:=List.mem_singleton.1 hb
  intro e;subst e;exact h (posK_mem.2 ha)
theorem rfG_pos {t:Tb} {l:List Nat} {f c:Nat} {b:List Nat} {R:List Nat×List Nat} (hr:rfG t l f b c=some R):0<f:=by
  cases f with
  | zero=>cases hr
  | succ f=>omega
theorem rfG_end {t:Tb} {l:List Nat} {f c:Nat} {b nx rp:List Nat} {ks:List (List UInt8)} {R:List Nat×List Nat} (he:(⟨ks,nx,rp⟩:Rf)=rfR t l b) (hc:rp.length=c) (hr:rfG t l (f+1) b c=some R):R=(nx,rp):=by
  rw [rfG] at hr
  simp only [← he] at hr
  rw [if_pos hc] at hr;injection hr with hr;exact hr.symm
theorem rfG_go {t:Tb} {l:List Nat} {f c:Nat} {b nx rp:List Nat} {ks:List (List UInt8)} {R:List Nat×List Nat} (he:(⟨ks,nx,rp⟩:Rf)=rfR t l b) (hc:¬ rp.length=c) (hr:rfG t l (f+1) b c=some R):rfG t l f nx rp.length=some R:=by
  rw [rfG] at hr
  simp only [← he] at hr
  rwa [if_neg hc] at hr
theorem two_len (x:Nat):(two x).length=2:=rfl
theorem key_succ {b r:List Nat} {j:Nat} (h:j<r.length):(r.take (j+1)).flatMap (fun x=>two (b.getD x 0))=(r.take j).flatMap (fun x=>two (b.getD x 0))++two (b.getD r[j] 0):=by
  rw [List.take_add_one,List.getElem?_eq_getElem h,List.flatMap_append];simp
theorem key_len {b r:List Nat}:(r.flatMap fun x=>two (b.getD x 0)).length=2*r.length:=by
  induction r with
  | nil=>rfl
  | cons x r ih=>rw [List.flatMap_cons,List.length_append,ih,two_len,List.length_cons];omega
theorem refine_ok {G:Ghost} {v vl:Value} {t:Tb} {l B R:List Nat} (ht:TbR G v t) (hok:t.ok) (hl:Nats G vl l) (hll:l.length≤5000) (hlN:∀ x∈l,x<t.next.length) (hR:refineF t l=some (B,R)) :
  FnOk prog 275 [v,vl] G [] fun r G' H'=>H'=[]∧∃ vb vr,r=.tuple #[vb,vr]∧Nats G' vb B∧Nats G' vr R:=by
 obtain ⟨un,ua,rfl,hcl,hN,hA⟩:=ht
 obtain ⟨An,cn,rfl⟩:=LstR.slice hN
 obtain ⟨Aa,ca,rfl,_⟩:=id hA
 obtain ⟨Al,cl,rfl,_⟩:=id hl
 obtain ⟨hn1,hn2,hal,hce,hrows,_⟩:=hok
 unfold refineF at hR
 refine FnOk.of_T [(0,_),(1,_)] func275 rfl ntmps275 sM rfl fun w0 hs=>?_
 have hN0:=hN
 have hA0:=hA
 have hl0:=hl
 refine Wt 2 [] hs rfl<|O_s (S_box hs rfl (cs:=_) rfl fun b2 _ hs =>Wp 6 [0,257] hs rfl<|Zy hs (Y_ld 0 isAgg36 rfl rfl (tabC_2 hcl)<|Wp 1 [] hs rfl<|O_s (S_make (n:=t.next.length) (m:=t.next.length) hs underlying45 TI3 rfl rfl rfl oM oM oM fun b23 _ hs =>Wp 9 [0,0] hs rfl ?_)))
 have hs:=hs.f1.f1
 rw [rep_nat] at hs
 refine T_block (T_loop (fun m E w=>∃ (k:Nat) (bl:List Nat) (G2:Ghost),k≤l.length∧bl=(l.take k).foldl (fun b s=>if t.acc.getD s false=true then b.set s 1 else b) (List.replicate t.next.length 0)∧bl.length=t.next.length∧m=l.length-k∧E=⟨[],[(1,(.slice Al l.length cl)),(2,Vp b2),(6,Vs b23 t.next.length t.next.length),(24,(.slice Al l.length cl)),(25,Vi ((l.length:Nat):Int)),(26,Vi (k:Int))]⟩∧St ⟨w0,G,feet []⟩ G2 [.row 3 1 (Vs b23 t.next.length t.next.length) t.next.length (bl.map natV),.blk b2 276 (tabC t.cell t.cells (.slice An t.next.length cn) (.slice Aa t.acc.length ca))] w) (L:=[(1,_),(2,_),(6,_),(24,_),(25,_),(26,_)]) ⟨rfl,rfl,rfl,rfl,rfl,rfl,trivial⟩ (⟨0,_,_,by omega,rfl,by simp,rfl,rfl,hs⟩) fun m E w hI=>?_)
 obtain ⟨k,bl,G2,hk,hfo,hbl,rfl,rfl,hs⟩:=hI
 have hN:=hN0.mono hs.le
 have hA:=hA0.mono hs.le
 have hl:=hl0.mono hs.le
 refine Wt 2 [] hs rfl<|Zy hs (Yc rfl (fun h27=>?_) fun h27=>?_)
 ·
  refine Wp 8 [0] hs rfl<|Zy hs (Y_idxN hl k underlying45 sizeOf3 rfl rfl rfl oM fun p28 hp28=>?_)
  obtain ⟨s,hse⟩:∃ s,s=l[k]'oM:=⟨_,rfl⟩
  rw [← hse] at hp28
  have hsN:s<t.next.length:=hlN s Z31
  refine Zy hs (Yg rfl (hp28)<|Wp 5 [0,258] hs rfl<|Zy hs (Y_ld 1 isAgg94 rfl rfl (tabC_3 hcl)<|Wp 1 [] hs rfl<|Zy hs (Y_idx1 s underlying94 sizeOf4 hA rfl rfl rfl (bool_row oM) fun p33 hp33 =>Zy hs (Yg rfl (hp33)<|Wp 1 [0] hs rfl<|T_condS rfl (fun h34=>?_) (fun h34=>?_)))))
  ·
   refine Wu 3 [] hs rfl<|Zy hs (Y_idxRow (s) underlying45 sizeOf3 rfl rfl rfl oM<|O_n (S_stRow hs sizeOf3 rfl rfl rfl oM fun _ hs =>Wp 2 [0] hs rfl<|Zy hs (Ya (s:=((k+1:Nat):Int)) rfl<|Wp 1 [] hs rfl ?_)))
   have hs:=hs.f1.f1
   have hacc:t.acc.getD s false=true:=by rw [getD_lt oM];exact h34
   refine O_nil ⟨_,?_,[(1,_),(2,_),(6,_),(24,_),(25,_),(26,_)],⟨rfl,rfl,rfl,rfl,rfl,rfl,trivial⟩,⟨k+1,bl.set s 1,_,by omega,by rw [rfB_succ oM,← hse,← hfo];dsimp only;rw [hacc];rfl,by simp [hbl],rfl,rfl,by rw [List.map_set];exact hs⟩⟩
   omega
  refine Wu 2 [] hs rfl<|Zy hs (Ya (s:=((k+1:Nat):Int)) rfl<|Wp 1 [] hs rfl ?_)
  have hs:=hs.f1.f1
  have hacc:t.acc.getD s false=false:=by rw [getD_lt oM];exact h34
  refine O_nil ⟨_,?_,[(1,_),(2,_),(6,_),(24,_),(25,_),(26,_)],⟨rfl,rfl,rfl,rfl,rfl,rfl,trivial⟩,⟨k+1,bl,_,by omega,by rw [rfB_succ oM,← hse,← hfo];dsimp only;rw [hacc];rfl,by simp [hbl],rfl,rfl,hs⟩⟩
  omega
 refine Wp 4 [0] hs rfl<|Wu 4 [0] hs rfl ?_
 obtain rfl:k=l.length:=by omega
 rw [List.take_length] at hfo
 refine T_block (T_loop (fun m E w=>∃ (f c b6:Nat) (bl:List Nat) (G2:Ghost),rfG t l f bl c=some (B,R)∧bl.length=t.next.length∧c≤5000∧m=f∧E=⟨[],[(1,(.slice Al l.length cl)),(2,Vp b2),(6,Vs b6 t.next.length t.next.length),(9,Vi (c:Int))]⟩∧St ⟨w0,G,feet []⟩ G2 [.row 3 1 (Vs b6 t.next.length t.next.length) t.next.length (bl.map natV),.blk b2 276 (tabC t.cell t.cells (.slice An t.next.length cn) (.slice Aa t.acc.length ca))] w) (L:=[(1,_),(2,_),(6,_),(9,_)]) ⟨rfl,rfl,rfl,rfl,trivial⟩ (⟨100,0,b23,bl,_,by rw [hfo];exact hR,hbl,by omega,rfl,rfl,hs⟩) fun m E w hI=>?_)
 obtain ⟨f,c,b6,bl,G2,hrg,hbl,hc5,rfl,rfl,hs⟩:=hI
 have hN:=hN0.mono hs.le
 have hA:=hA0.mono hs.le
 have hl:=hl0.mono hs.le
 refine Wt 3 [] hs rfl<|O_s (S_makeMap hs fun b39 _ hs =>Wp 6 [0] hs rfl<|O_s (S_make (n:=t.next.length) (m:=t.next.length) hs underlying45 TI3 rfl rfl rfl oM oM oM fun b42 _ hs =>Wp 13 [0,0,0] hs rfl ?_))
 have hfp:=rfG_pos hrg
 obtain ⟨f1,rfl⟩:∃ g,m=g+1:=⟨m-1,by omega⟩
 have hs:=hs.nilRow 3 1
 have hs:=hs.f4.f4.f2.f3.f4
 rw [rep_nat] at hs
 refine T_block (T_loop (fun m E w=>∃ (k:Nat) (ks:List (List UInt8)) (nx rp:List Nat) (v12:Value) (G2:Ghost),k≤l.length∧(⟨ks,nx,rp⟩:Rf)=(l.take k).foldl (rfP t bl) ⟨[],List.replicate bl.length 0,[]⟩∧ks.Nodup∧ks.length=rp.length∧nx.length=t.next.length∧rp.length≤k∧m=l.length-k∧E=⟨[],[(1,(.slice Al l.length cl)),(2,Vp b2),(6,Vs b6 t.next.length t.next.length),(9,Vi (c:Int)),(10,.map (some b39)),(11,Vs b42 t.next.length t.next.length),(12,v12),(43,(.slice Al l.length cl)),(44,Vi ((l.length:Nat):Int)),(45,Vi (k:Int))]⟩∧St ⟨w0,G,feet []⟩ G2 [.obj b39 (.map (esOf strK ks).toArray ks.length),.row 3 1 (Vs b42 t.next.length t.next.length) t.next.length (nx.map natV),.row 3 1 (v12) rp.length (rp.map natV),.row 3 1 (Vs b6 t.next.length t.next.length) t.next.length (bl.map natV),.blk b2 276 (tabC t.cell t.cells (.slice An t.next.length cn) (.slice Aa t.acc.length ca))] w) (L:=[(1,_),(2,_),(6,_),(9,_),(10,_),(11,_),(12,_),(43,_),(44,_),(45,_)]) ⟨rfl,rfl,rfl,rfl,rfl,rfl,rfl,rfl,rfl,rfl,trivial⟩ (⟨0,[],List.replicate bl.length 0,[],_,_,by omega,rfl,List.nodup_nil,rfl,by simp [hbl],by simp,rfl,rfl,by rw [hbl];exact hs⟩) fun m E w hI=>?_)
 obtain ⟨k,ks,nx,rp,v12,G2,hk,hfo,hnd,hkl,hnl,hrk,rfl,rfl,hs⟩:=hI
 have hN:=hN0.mono hs.le
 have hA:=hA0.mono hs.le
 have hl:=hl0.mono hs.le
 refine Wt 2 [] hs rfl<|Zy hs (Yc rfl (fun h46=>?_) fun h46=>?_)
 ·
  refine Wp 8 [0] hs rfl<|Zy hs (Y_idxN hl k underlying45 sizeOf3 rfl rfl rfl oM fun p47 hp47=>?_)
  obtain ⟨s,hse⟩:∃ s,s=l[k]'oM:=⟨_,rfl⟩
  rw [← hse] at hp47
  have hsN:s<t.next.length:=hlN s Z31
  refine Zy hs (Yg rfl (hp47)<|Wp 5 [0,257] hs rfl<|Zy hs (Y_ld 4 isAgg36 rfl rfl (tabC_2 hcl)<|Wp 1 [] hs rfl<|Zy hs (Y_idxS hN s underlying36 sizeOf45 rfl rfl rfl oM fun p52 c52 hp52 hc52 hR52=>?_)))
  obtain ⟨rr,herr⟩:∃ r,r=t.next[s]'oM:=⟨_,rfl⟩
  rw [← herr] at hR52
  have hlrr:rr.length=t.cells∧∀ x∈rr,x<t.next.length:=hrows rr Z29
  obtain ⟨u52,rfl,hrr⟩:=hR52
  obtain ⟨A52,c52,rfl,_⟩:=id hrr
  refine Zy hs (Yg rfl (hp52 0 (.slice A52 rr.length c52) rfl)<|Wp 1 [] hs rfl<|Zy hs (Y_mul (c:=((2*rr.length:Nat):Int)) rfl rfl oM oM<|Zy hs (Ya (s:=((2*rr.length+2:Nat):Int)) rfl<|O_s (S_make (n:=0) (m:=(2*rr.length+2)) hs underlying99 TI5 rfl rfl rfl oM oM oM fun b57 _ hs =>Wp 2 [0] hs rfl ?_))))
  obtain ⟨x0,hx0⟩:∃ x,x=bl[s]'oM:=⟨_,rfl⟩
  refine Wu 1 [] hs rfl<|T_drawS [0,1,2,3,4,5,6,7,8,9,10,11,12] hs kR ?_
  replace hs:=hs.drew
  refine Xr [0,1,2] [] hs rfl<|Xt 3 hs rfl (Y_idxRow (s) underlying45 sizeOf3 rfl rfl rfl oM<|Xt 4 hs rfl (Y_ldRow 4 rfl isAgg3 rfl (show (bl.map natV)[s]?=some (natV x0) from by rw [hx0];exact nat_row oM)<|Xt 5 hs rfl (Y_conv underlying3 underlying5 (c:=((UInt8.ofNat x0).toNat:Int)) rfl (u8wrap _)<|Xr [6,7] [] hs rfl<|Xt 8 hs rfl (Y_idxRow (s) underlying45 sizeOf3 rfl rfl rfl oM<|Xt 9 hs rfl (Y_ldRow 4 rfl isAgg3 rfl (show (bl.map natV)[s]?=some (natV x0) from by rw [hx0];exact nat_row oM)<|Xt 10 hs rfl (Y_shr (c:=((x0 / 256:Nat):Int)) rfl rfl dC (shr_8 _)<|Xt 11 hs rfl (Y_conv underlying3 underlying5 (c:=((UInt8.ofNat (x0 / 256)).toNat:Int)) rfl (u8wrap _) ?_)))))))
  have hle:=hs.le
  refine Xo 12 rfl (Se hs zeroValue5 rfl fun v1 _ hs _=>?_)
  obtain ⟨_,hG70,hl70,hs⟩:=hs.fixRow noM
  replace hN:=hN.mono hG70
  replace hA:=hA.mono hG70
  replace hl:=hl.mono hG70
  refine A_moreS hs hle hG70 (List.Sublist.refl _)<|Xa 13 rfl (S_append hs underlying99 TI5 rfl dC rfl rfl (hl70) (one2) oM oM fun v2 _ hs =>Xa 14 rfl (S_y hs rfl (Yq rfl<|Xe (Zk [1,2,6,9,10,11,12,14,15,43,44,45] rfl<|Wu 4 [257] hs rfl<|Zy hs (Y_ld 5 isAgg36 rfl rfl (tabC_2 hcl)<|Wp 1 [] hs rfl<|Zy hs (Y_idxS hN s underlying36 sizeOf45 rfl rfl rfl oM fun p75 c75 hp75 hc75 hR75=>?_))))))
  rw [← herr] at hR75
  obtain ⟨u75,rfl,hr2⟩:=hR75
  obtain ⟨A75,c75,rfl,_⟩:=id hr2
  refine Zy hs (Yg rfl (hp75 0 (.slice A75 rr.length c75) rfl)<|Wp 3 [0] hs rfl ?_)
  have hs:=hs.f5.f5.f5.f5.f5.f5
  have hx0g:two x0=two (bl.getD s 0):=by rw [getD_lt oM,← hx0]
  refine T_block (T_loop (fun m E w=>∃ (j:Nat) (vk:Value) (G2:Ghost),j≤rr.length∧Nats G2 (.slice A75 rr.length c75) rr∧m=rr.length-j∧E=⟨[],[(1,(.slice Al l.length cl)),(2,Vp b2),(6,Vs b6 t.next.length t.next.length),(9,Vi (c:Int)),(10,.map (some b39)),(11,Vs b42 t.next.length t.next.length),(12,v12),(14,Vi (s:Int)),(15,vk),(43,(.slice Al l.length cl)),(44,Vi ((l.length:Nat):Int)),(45,Vi (k:Int)),(76,.slice A75 rr.length c75),(77,Vi ((rr.length:Nat):Int)),(78,Vi (j:Int))]⟩∧St ⟨w0,G,feet []⟩ G2 [.row 5 1 vk (two (bl.getD s 0)++(rr.take j).flatMap fun x=>two (bl.getD x 0)).length ((two (bl.getD s 0)++(rr.take j).flatMap fun x=>two (bl.getD x 0)).map byteV),.obj b39 (.map (esOf strK ks).toArray ks.length),.row 3 1 (Vs b42 t.next.length t.next.length) t.next.length (nx.map natV),.row 3 1 (v12) rp.length (rp.map natV),.row 3 1 (Vs b6 t.next.length t.next.length) t.next.length (bl.map natV),.blk b2 276 (tabC t.cell t.cells (.slice An t.next.length cn) (.slice Aa t.acc.length ca))] w) (L:=[(1,_),(2,_),(6,_),(9,_),(10,_),(11,_),(12,_),(14,_),(15,_),(43,_),(44,_),(45,_),(76,_),(77,_),(78,_)]) ⟨rfl,rfl,rfl,rfl,rfl,rfl,rfl,rfl,rfl,rfl,rfl,rfl,rfl,rfl,rfl,trivial⟩ (⟨0,_,_,by omega,hr2,rfl,rfl,by rw [List.take_zero,List.flatMap_nil,List.append_nil,← hx0g];exact hs⟩) fun m E w hI=>?_)
  obtain ⟨j,vk,G2,hj,hr2,rfl,rfl,hs⟩:=hI
  have hN:=hN0.mono hs.le
  have hA:=hA0.mono hs.le
  have hl:=hl0.mono hs.le
  refine Wt 2 [] hs rfl<|Zy hs (Yc rfl (fun h79=>?_) fun h79=>?_)
  ·
   refine Wp 8 [0] hs rfl<|Zy hs (Y_idxN hr2 j underlying45 sizeOf3 rfl rfl rfl oM fun p80 hp80=>?_)
   obtain ⟨x,hxe⟩:∃ x,x=rr[j]'oM:=⟨_,rfl⟩
   rw [← hxe] at hp80
   have hxN:x<t.next.length:=hlrr.2 x Z33
   refine Zy hs (Yg rfl (hp80)<|Wp 2 [0] hs rfl ?_)
   obtain ⟨x1,hx1⟩:∃ y,y=bl[x]'oM:=⟨_,rfl⟩
   have hkyl:(two (bl.getD s 0)++(rr.take j).flatMap fun x=>two (bl.getD x 0)).length=2+2*j:=by rw [List.length_append,two_len,key_len,List.length_take];omega
   refine T_drawS [0,1,2,3,4,5,6,7,8,9,10,11,12] hs kR ?_
   replace hs:=hs.drew
   refine Xr [0,1,2] [] hs rfl<|Xt 3 hs rfl (Y_idxRow (x) underlying45 sizeOf3 rfl rfl rfl oM<|Xt 4 hs rfl (Y_ldRow 4 rfl isAgg3 rfl (show (bl.map natV)[x]?=some (natV x1) from by rw [hx1];exact nat_row oM)<|Xt 5 hs rfl (Y_conv underlying3 underlying5 (c:=((UInt8.ofNat x1).toNat:Int)) rfl (u8wrap _)<|Xr [6,7] [] hs rfl<|Xt 8 hs rfl (Y_idxRow (x) underlying45 sizeOf3 rfl rfl rfl oM<|Xt 9 hs rfl (Y_ldRow 4 rfl isAgg3 rfl (show (bl.map natV)[x]?=some (natV x1) from by rw [hx1];exact nat_row oM)<|Xt 10 hs rfl (Y_shr (c:=((x1 / 256:Nat):Int)) rfl rfl dC (shr_8 _)<|Xt 11 hs rfl (Y_conv underlying3 underlying5 (c:=((UInt8.ofNat (x1 / 256)).toNat:Int)) rfl (u8wrap _) ?_)))))))
   have hle:=hs.le
   refine Xo 12 rfl (Se hs zeroValue5 rfl fun v3 _ hs _=>?_)
   obtain ⟨_,hG94,hl94,hs⟩:=hs.fixRow noM
   replace hr2:=hr2.mono hG94
   refine A_moreS hs hle hG94 (List.Sublist.refl _)<|Xa 13 rfl (S_append hs underlying99 TI5 rfl dC rfl rfl (hl94) (one2) (by rw [hkyl];omega) (by rw [hkyl];omega) fun v4 _ hs =>Xa 14 rfl (S_y hs rfl (Yq rfl<|Xe (Zk [1,2,6,9,10,11,12,14,15,43,44,45,76,77,78] rfl ?_))))
   refine Zr<|Zy hs (Ya (s:=((j+1:Nat):Int)) rfl<|Wp 1 [] hs rfl ?_)
   have hs:=hs.f5.f5.f5.f5.f5.f5
   have hx1g:two x1=two (bl.getD rr[j] 0):=by rw [← hxe,getD_lt oM,← hx1]
   refine O_nil ⟨_,?_,[(1,_),(2,_),(6,_),(9,_),(10,_),(11,_),(12,_),(14,_),(15,_),(43,_),(44,_),(45,_),(76,_),(77,_),(78,_)],⟨rfl,rfl,rfl,rfl,rfl,rfl,rfl,rfl,rfl,rfl,rfl,rfl,rfl,rfl,rfl,trivial⟩,⟨j+1,_,_,by omega,hr2,rfl,rfl,by rw [key_succ oM,← hx1g,← List.append_assoc,List.map_append,List.length_append];exact hs⟩⟩
   omega
  refine Wp 4 [0] hs rfl ?_
  obtain rfl:j=rr.length:=by omega
  rw [List.take_length] at hs
  obtain ⟨_,hG_hky,hky,hs⟩:=hs.fixRow noM
  have hke:(two (bl.getD s 0)++rr.flatMap fun x=>two (bl.getD x 0))=keyF t bl s:=by unfold keyF;rw [getD_lt (by omega:s<t.next.length),← herr]
  rw [hke] at hky
  replace hky:Bytes _ _ _:=hky
  refine Wu 4 [] hs rfl<|Zy hs (Y_str (bs:=keyF t bl s) underlying99 underlying5 underlying9 rfl hky<|Zy hs (Y_lookupK (a:=(keyF t bl s)) 0 rfl underlying339 keyS zeroValue3 hnd rfl rfl (fun hno=>?_) (fun hyes=>?_)))
  ·
   refine Wp 16 [14,1,2,6,9,10,11,12,14,15,18,19,43,44,45,0] hs rfl<|Zy hs (Y_lenOwn 2 rfl underlying45 rfl hs<|Wp 6 [0] hs rfl<|Zy hs (Y_str (bs:=keyF t bl s) underlying99 underlying5 underlying9 rfl hky<|Wp 1 [] hs rfl<|O_n (S_putK hs underlying339 keyS hnd hno rfl rfl (by rw [hkl];rfl) fun _ hs =>Wp 4 [0] hs rfl<|O_s (Se hs zeroValue3 rfl fun v5 _ hs _=>?_))))
   obtain ⟨_,hG114,hl114,hs⟩:=hs.fixRow noM
   refine O_s (S_append hs.f2 underlying45 TI3 rfl dC rfl rfl (hl114) (one1 rfl) oM oM fun v6 _ hs =>Wp 6 [12,1,2,6,9,10,11,12,14,18,43,44,45] hs rfl<|Zy hs (Y_idxRow (s) underlying45 sizeOf3 rfl rfl rfl oM<|O_n (S_stRow hs.f2 sizeOf3 rfl rfl rfl oM fun _ hs =>Wp 2 [0] hs rfl<|Zy hs (Ya (s:=((k+1:Nat):Int)) rfl<|Wp 1 [] hs rfl ?_))))
   have hs:=hs.f4.f4.f3.f3.f4
   have hst:=rfP_new (t:=t) (bl:=bl) (nx:=nx) (rp:=rp) hno
   refine O_nil ⟨_,?_,[(1,_),(2,_),(6,_),(9,_),(10,_),(11,_),(12,_),(43,_),(44,_),(45,_)],⟨rfl,rfl,rfl,rfl,rfl,rfl,rfl,rfl,rfl,rfl,trivial⟩,⟨k+1,ks++[keyF t bl s],nx.set s rp.length,rp++[s],_,_,by omega,by rw [take_foldl_succ _ _ _ _ oM,← hse,← hfo,hst],key_nodup hnd hno,by simp [hkl],by rw [List.length_set];exact hnl,by simp;omega,rfl,rfl,by rw [List.map_set,List.map_append,show (rp++[s]).length=rp.length+1 by simp];exact hs.weak hs.le (Ghost.le.refl _) (List.sublist_append_left [_,_,_,_,_] _)⟩⟩
   omega
  refine Wp 18 [14,1,2,6,9,10,11,12,14,15,18,19,43,44,45,0] hs rfl<|Zy hs (Y_idxRow (s) underlying45 sizeOf3 rfl rfl rfl oM<|O_n (S_stRow hs.f1 sizeOf3 rfl rfl rfl oM fun _ hs =>Wp 2 [0] hs rfl<|Zy hs (Ya (s:=((k+1:Nat):Int)) rfl<|Wp 1 [] hs rfl ?_)))
  have hs:=hs.f4.f4.f4.f3.f4
  have hst:=rfP_old (t:=t) (bl:=bl) (nx:=nx) (rp:=rp) hyes
  refine O_nil ⟨_,?_,[(1,_),(2,_),(6,_),(9,_),(10,_),(11,_),(12,_),(43,_),(44,_),(45,_)],⟨rfl,rfl,rfl,rfl,rfl,rfl,rfl,rfl,rfl,rfl,trivial⟩,⟨k+1,ks,nx.set s (posK (keyF t bl s) ks),rp,_,_,by omega,by rw [take_foldl_succ _ _ _ _ oM,← hse,← hfo,hst],hnd,hkl,by rw [List.length_set];exact hnl,by omega,rfl,rfl,by rw [List.map_set];exact hs.weak hs.le (Ghost.le.refl _) (List.sublist_append_left [_,_,_,_,_] _)⟩⟩
  omega
 refine Wp 4 [0] hs rfl ?_
 obtain rfl:k=l.length:=by omega
 rw [List.take_length] at hfo
 refine Wu 4 [] hs rfl<|Zy hs (Y_lenOwn 2 rfl underlying45 rfl hs<|Wp 1 [] hs rfl<|Zy hs (Yc rfl (fun h124=>?_) fun h124=>?_))
 ·
  refine Wp 9 [0,0] hs rfl<|T_ret ?_
  have hfe:=rfG_end hfo oM hrg
  rw [Prod.mk.injEq] at hfe
  obtain ⟨rfl,rfl⟩:=hfe
  have hs:=hs.f2
  obtain ⟨_,hG_hf12,hf12,hs⟩:=hs.fixRow noM
  have hs:=hs.f1
  obtain ⟨_,hG_hf42,hf42,hs⟩:=hs.fixRow noM
  replace hf12:=hf12.mono hG_hf42
  refine Rt_fin (vs:=[_,_]) results275 rfl ⟨rfl,rfl,trivial⟩ ?_
  try dsimp only [tup]
  exact ⟨_,[],hs.done,rfl,_,_,rfl,(show Nats _ _ _ from by unfold Nats;rw [hnl];exact hf42),hf12⟩
 refine Wp 6 [0] hs rfl<|Zy hs (Y_lenOwn 2 rfl underlying45 rfl hs<|Wp 2 [] hs rfl ?_)
 have hs:=hs.f4.f2
 have hgo:=rfG_go hfo oM hrg
 refine O_nil ⟨_,?_,[(1,_),(2,_),(6,_),(9,_)],⟨rfl,rfl,rfl,rfl,trivial⟩,⟨f1,rp.length,b42,nx,_,hgo,by omega,by omega,rfl,rfl,by exact hs.weak hs.le (Ghost.le.refl _) (List.sublist_append_left [_,_] _)⟩⟩
 omega
abbrev intV (z:Int):Value:=Vi z
def clsFl (l:List (List Nat)):List Value:=(l.map fun c=>c.map u64V).flatten
def Cls4 (l:List (List Nat)):Prop:=∀ c∈l,c.length=4∧∀ w∈c,w<W64
theorem cls4_len {l:List (List Nat)} (h:Cls4 l):∀ c∈l.map fun c=>c.map u64V,c.length=4:=by
  intro c hc
  obtain ⟨d,hd,rfl⟩:=List.mem_map.1 hc
  rw [List.length_map];exact (h d hd).1
theorem clsFl_snoc (l:List (List Nat)) (c:List Nat):clsFl (l++[c])=clsFl l++c.map u64V:=by unfold clsFl;simp
theorem clsFl_at {l:List (List Nat)} (h:Cls4 l) {i:Nat} (hi:i<l.length):((clsFl l).drop (i*4)).take 4=l[i].map u64V :=
  flatten_at _ i _ (cls4_len h) (by rw [List.getElem?_map,List.getElem?_eq_getElem hi];rfl)
theorem clsFl_set:∀ {l:List (List Nat)} (_:Cls4 l) {i:Nat} (_:i<l.length) (c:List Nat),clsFl (l.set i c)=(clsFl l).take (i*4)++c.map u64V++(clsFl l).drop (i*4+4)
  | d::l,h,0,_,c=>by
    have hd:=(h d sM).1
    simp only [clsFl,List.set_cons_zero,List.map_cons,List.flatten_cons,Nat.zero_mul,List.take_zero,List.nil_append,Nat.zero_add]
    rw [List.drop_append,List.drop_eq_nil_of_le Z40,List.nil_append,List.length_map,hd];rfl
  | d::l,h,i+1,hi,c=>by
    have hd:=(h d sM).1
    have ih:=clsFl_set (l:=l) (fun x hx=>h x (by simp [hx])) (i:=i) (by simpa using hi) c
    have e:∀ l:List (List Nat),clsFl (d::l)=d.map u64V++clsFl l:=fun l=>rfl
    have e1:(d.map u64V).take ((i+1)*4)=d.map u64V:=List.take_of_length_le Z40
    have e2:(d.map u64V).drop ((i+1)*4+4)=[]:=List.drop_eq_nil_of_le Z40
    rw [List.set_cons_succ,e,e,ih,List.take_append,List.drop_append,e1,e2,List.nil_append,List.length_map,hd,show (i+1)*4-4=i*4 by omega,show (i+1)*4+4-4=i*4+4 by omega]
    simp only [List.append_assoc]
theorem Cls4.set {l:List (List Nat)} (h:Cls4 l) {i:Nat} {c:List Nat} (hc:c.length=4∧∀ w∈c,w<W64):Cls4 (l.set i c):=by
  intro d hd
  rcases List.mem_or_eq_of_mem_set hd with hd | rfl
  · exact h d hd
  · exact hc
theorem union_wf {a b:List Nat} (ha:a.length=4) (hb:b.length=4):(unionF a b).length=4∧∀ w∈unionF a b,w<W64:=by
  refine ⟨unionF_len ha hb,fun w hw=>?_⟩
  unfold unionF at hw
  obtain ⟨i,hi,rfl⟩:=List.mem_iff_getElem.1 hw
  rw [List.getElem_zipWith];exact or64_lt _ _
structure MgOk (t:Tb) (k:Nat) (st:Mg):Prop where
  nd:st.keys.Nodup
  kl:st.keys.length=st.cells.length
  cl:st.cls.length=st.cells.length
  ol:st.of.length=t.cells
  le:st.cells.length≤k
  lt:∀ z∈st.of,-1≤z∧z<(st.cells.length:Int)
  c4:Cls4 st.cls
theorem mgN_old {t:Tb} {b r:List Nat} {st:Mg} {c:Nat} (h:posK (mgK t b r c) st.keys<st.keys.length):mgN t b r st c={ st with of:=st.of.set c ((posK (mgK t b r c) st.keys:Nat):Int) }:=by
  unfold mgN;simp only [if_pos h]
theorem mgN_new {t:Tb} {b r:List Nat} {st:Mg} {c:Nat} (h:¬ posK (mgK t b r c) st.keys<st.keys.length):mgN t b r st c=⟨st.keys++[mgK t b r c],st.cells++[c],st.cls++[[0,0,0,0]],st.of.set c (st.cells.length:Int)⟩:=by
  unfold mgN;simp only [if_neg h]
theorem mgN_ok {t:Tb} {k:Nat} {b r:List Nat} {st:Mg} {c:Nat} (h:MgOk t k st) (hc:c<t.cells):MgOk t (k+1) (mgN t b r st c)∧0≤(mgN t b r st c).of.getD c 0:=by
  by_cases hp:posK (mgK t b r c) st.keys<st.keys.length
  · rw [mgN_old hp]
    refine ⟨⟨h.nd,h.kl,h.cl,by simp [h.ol],by have:=h.le;dsimp only;omega,fun z hz=>?_,h.c4⟩,?_⟩
    · rcases List.mem_or_eq_of_mem_set hz with hz | rfl
      · exact h.lt z hz
      · have:=h.kl;dsimp only;omega
    · dsimp only;rw [getD_lt (by rw [List.length_set,h.ol];exact hc),List.getElem_set_self];omega
  · rw [mgN_new hp]
    refine ⟨⟨key_nodup h.nd hp,by simp [h.kl],by simp [h.cl],by simp [h.ol],by have:=h.le;simp;omega,fun z hz=>?_,fun d hd=>?_⟩,?_⟩
    · rcases List.mem_or_eq_of_mem_set hz with hz | rfl
      · have:=h.lt z hz;simp;omega
      · simp;omega
    · rcases List.mem_append.1 hd with hd | hd
      · exact h.c4 d hd
      · rw [List.mem_singleton.1 hd];exact ⟨rfl,by decide⟩
    · dsimp only;rw [getD_lt (by rw [List.length_set,h.ol];exact hc),List.getElem_set_self];omega
def mgC (st:Mg) (c x:Nat):Mg:={ st with cls:=st.cls.set (st.of.getD c 0).toNat (unionF (st.cls.getD (st.of.getD c 0).toNat []) (ofF [UInt8.ofNat x])) }
theorem mgP_eq (t:Tb) (b r:List Nat) (st:Mg) (x:Nat):mgP t b r st x=mgC (if st.of.getD (t.cell.getD x 0) 0<0 then mgN t b r st (t.cell.getD x 0) else st) (t.cell.getD x 0) x:=rfl
theorem MgOk.up {t:Tb} {k:Nat} {st:Mg} (h:MgOk t k st):MgOk t (k+1) st:=⟨h.nd,h.kl,h.cl,h.ol,by have:=h.le;omega,h.lt,h.c4⟩
theorem mgC_ok {t:Tb} {k:Nat} {st:Mg} {c x:Nat} (h:MgOk t k st) (hc:c<t.cells) (h0:0≤st.of.getD c 0):MgOk t k (mgC st c x):=by
  have hlt:=h.lt (st.of.getD c 0) (by rw [getD_lt (by rw [h.ol];exact hc)];exact List.getElem_mem _)
  refine ⟨h.nd,h.kl,by unfold mgC;simp [h.cl],h.ol,h.le,h.lt,?_⟩
  refine Cls4.set h.c4 (union_wf ?_ (ofF_len _))
  rw [getD_lt (by have:=h.cl;omega)]
  exact (h.c4 _ (List.getElem_mem _)).1
theorem mgP_ok {t:Tb} {k:Nat} {b r:List Nat} {st:Mg} {x:Nat} (h:MgOk t k st) (hc:t.cell.getD x 0<t.cells):MgOk t (k+1) (mgP t b r st x):=by
  rw [mgP_eq]
  by_cases h0:st.of.getD (t.cell.getD x 0) 0<0
  · rw [if_pos h0];exact mgC_ok (mgN_ok h hc).1 hc (mgN_ok h hc).2
  · rw [if_neg h0];exact (mgC_ok h hc oM).up
theorem mg_all {t:Tb} {b r:List Nat} (hcl:t.cell.length=256) (hc:∀ c∈t.cell,c<t.cells):∀ k,k≤256→MgOk t k ((List.range k).foldl (mgP t b r) ⟨[],[],[],List.replicate t.cells (-1)⟩)
  | 0,_=>⟨List.nodup_nil,rfl,rfl,by simp,by simp,fun z hz=>by rw [List.eq_of_mem_replicate hz];simp,fun c hc=>by cases hc⟩
  | k+1,hk=>by
    rw [List.range_succ,List.foldl_append]
    refine mgP_ok (mg_all hcl hc k oM) ?_
    rw [getD_lt oM];exact hc _ (List.getElem_mem _)
theorem mg_step {t:Tb} {b r:List Nat} (k:Nat):(List.range (k+1)).foldl (mgP t b r) ⟨[],[],[],List.replicate t.cells (-1)⟩=mgP t b r ((List.range k).foldl (mgP t b r) ⟨[],[],[],List.replicate t.cells (-1)⟩) k:=by
  rw [List.range_succ,List.foldl_append];rfl
theorem mgK_succ {t:Tb} {b r:List Nat} {c j:Nat} (h:j<r.length):mgK t b (r.take (j+1)) c=mgK t b (r.take j) c++two (b.getD (t.to r[j] c) 0):=by
  unfold mgK;rw [List.take_add_one,List.getElem?_eq_getElem h,List.flatMap_append];simp
theorem mgK_len {t:Tb} {b r:List Nat} {c:Nat}:(mgK t b r c).length=2*r.length:=by
  unfold mgK
  induction r with
  | nil=>rfl
  | cons x r ih=>rw [List.flatMap_cons,List.length_append,ih,two_len,List.length_cons];omega
theorem to_at {t:Tb} {s c:Nat} (hs:s<t.next.length) (hc:c<(t.next[s]'hs).length):t.to s c=(t.next[s]'hs)[c]:=by unfold Tb.to;rw [getD_lt hs,getD_lt hc]
theorem int_row {l:List Int} {i:Nat} (h:i<l.length):(l.map intV)[i]?=some (intV (l[i]'h)):=by rw [List.getElem?_map,List.getElem?_eq_getElem h];rfl
theorem fill_step {n k:Nat} (h:k<n):(List.replicate k (-1:Int)++List.replicate (n-k) 0).set k (-1)=List.replicate (k+1) (-1)++List.replicate (n-(k+1)) 0:=by
  rw [List.set_append_right _ _ sM,List.length_replicate,Nat.sub_self,show n-k=(n-(k+1))+1 by omega,List.replicate_succ,List.set_cons_zero,List.replicate_succ',List.append_assoc];rfl
theorem castH {c:Ctx} {G:Ghost} {H H':List Res} {w:World} (hs:St c G H w) (h:H=H'):St c G H' w:=h▸hs
def ClR (_:Ghost) (c:List Value) (w:List Nat):Prop:=c=w.map u64V∧w.length=4∧∀ x∈w,x<W64
def ClsL (G:Ghost) (v:Value) (l:List (List Nat)):Prop:=LstR 4 ClR G v l
theorem ClsL.mono {G G':Ghost} (h:G.le G') {v:Value} {l:List (List Nat)} (hl:ClsL G v l):ClsL G' v l:=LstR.mono (R:=ClR) (G:=G) (G':=G') (fun _ _ h=>h) h hl
theorem clsL_of {G:Ghost} {v:Value} {l:List (List Nat)} (h:Sl G v 4 l.length (clsFl l)) (h4:Cls4 l):ClsL G v l:=by
  refine LstR.ofSl h rfl rfl ?_ (cls4_len h4)
  have key:∀ l:List (List Nat),Cls4 l→All2 (ClR G) (l.map fun c=>c.map u64V) l:=by
    intro l
    induction l with
    | nil=>intro _;trivial
    | cons c l ih=>intro h;exact ⟨⟨rfl,(h c sM).1,(h c sM).2⟩,ih fun d hd=>h d (by simp [hd])⟩
  exact key l h4
theorem one_z4:∀ y∈[Value.int .u64 0,.int .u64 0,.int .u64 0,.int .u64 0],y.oneCell'=true:=by
  intro y hy
  simp only [List.mem_cons,List.not_mem_nil,or_false] at hy
  rcases hy with rfl | rfl | rfl | rfl<;>rfl
theorem merge_ok {G:Ghost} {v vb vr:Value} {t:Tb} {B R:List Nat} (ht:TbR G v t) (hok:t.ok) (hB:Nats G vb B) (hR:Nats G vr R) (hBl:B.length=t.next.length) (hRl:R.length≤5000) (hRN:∀ x∈R,x<t.next.length) :
  FnOk prog 277 [v,vb,vr] G [] fun r G' H'=>H'=[]∧∃ vc vk,r=.tuple #[vc,vk]∧Nats G' vc (mergeF t B R).cells∧ClsL G' vk (mergeF t B R).cls:=by
 obtain ⟨un,ua,rfl,hcl,hN,hA⟩:=ht
 obtain ⟨An,cn,rfl⟩:=LstR.slice hN
 obtain ⟨Aa,ca,rfl,_⟩:=id hA
 obtain ⟨Ab,cb,rfl,_⟩:=id hB
 obtain ⟨Ar,cr,rfl,_⟩:=id hR
 obtain ⟨hn1,hn2,hal,hce5,hrows,hcells⟩:=hok
 refine FnOk.of_T [(0,_),(1,_),(2,_)] func277 rfl ntmps277 sM rfl fun w0 hs=>?_
 have hN0:=hN
 have hA0:=hA
 have hB0:=hB
 have hR0:=hR
 refine Wt 2 [] hs rfl<|O_s (S_box hs rfl (cs:=_) rfl fun b3 _ hs =>Wp 5 [0] hs rfl<|O_s (S_makeMap hs fun b21 _ hs =>Wp 13 [0,0,0,256] hs rfl<|Zy hs (Y_ld 1 isAgg3 rfl rfl (tabC_1 hcl)<|O_s (S_make (n:=t.cells) (m:=t.cells) hs underlying45 TI3 rfl rfl rfl oM oM oM fun b24 _ hs =>Wp 9 [0,0] hs rfl ?_))))
 have hs:=hs.f2.f2.f2
 refine Zl [1,2,3,8,9,10,11,26,27] (fun m E w=>∃ (k:Nat) (G2:Ghost),k≤t.cells∧m=t.cells-k∧E=⟨[],[(1,(.slice Ab B.length cb)),(2,(.slice Ar R.length cr)),(3,Vp b3),(8,.map (some b21)),(9,Vn),(10,Vn),(11,Vs b24 t.cells t.cells),(26,Vi ((t.cells:Nat):Int)),(27,Vi (k:Int))]⟩∧St ⟨w0,G,feet []⟩ G2 [.row 3 1 (Vs b24 t.cells t.cells) t.cells ((List.replicate k (-1)++List.replicate (t.cells-k) 0).map intV),.obj b21 (.map #[] 0),.blk b3 276 (tabC t.cell t.cells (.slice An t.next.length cn) (.slice Aa t.acc.length ca))] w) rfl (⟨0,_,by omega,rfl,rfl,by rw [List.replicate_zero,List.nil_append,Nat.sub_zero,List.map_replicate];exact hs⟩) fun m E w hI=>?_
 obtain ⟨k,G2,hk,rfl,rfl,hs⟩:=hI
 have hN:=hN0.mono hs.le
 have hA:=hA0.mono hs.le
 have hB:=hB0.mono hs.le
 have hR:=hR0.mono hs.le
 refine Wt 2 [] hs rfl<|Zy hs (Yc rfl (fun h28=>?_) fun h28=>?_)
 ·
  refine Wp 14 [0,0] hs rfl<|Zy hs (Y_idxRow (k) underlying45 sizeOf3 rfl rfl rfl oM<|O_n (S_stRow hs sizeOf3 rfl rfl rfl oM fun _ hs =>Wp 2 [0] hs rfl<|Zy hs (Ya (s:=((k+1:Nat):Int)) rfl<|Wp 1 [] hs rfl<|Zx [1,2,3,8,9,10,11,26,27] rfl ⟨k+1,_,by omega,rfl,rfl,by rw [← fill_step oM,List.map_set];exact hs⟩)))
 refine Wp 4 [0] hs rfl<|Wu 5 [0] hs rfl ?_
 obtain rfl:k=t.cells:=by omega
 rw [Nat.sub_self,List.replicate_zero,List.append_nil] at hs
 have hs:=hs.nilRow 104 4
 have hs:=hs.nilRow 3 1
 have hs:=hs.f4.f3.f3.f3.f4
 have hm0:=mg_all (b:=B) (r:=R) hcl hcells
 refine Zl [1,2,3,8,9,10,11,34] (fun m E w=>∃ (k:Nat) (sm:Mg) (v9 v10:Value) (G2:Ghost),k≤256∧sm=(List.range k).foldl (mgP t B R) ⟨[],[],[],List.replicate t.cells (-1)⟩∧MgOk t k sm∧m=256-k∧E=⟨[],[(1,(.slice Ab B.length cb)),(2,(.slice Ar R.length cr)),(3,Vp b3),(8,.map (some b21)),(9,v9),(10,v10),(11,Vs b24 t.cells t.cells),(34,Vi (k:Int))]⟩∧St ⟨w0,G,feet []⟩ G2 [.obj b21 (.map (esOf strK sm.keys).toArray sm.keys.length),.row 3 1 (v9) sm.cells.length (sm.cells.map natV),.row 104 4 (v10) sm.cls.length (clsFl sm.cls),.row 3 1 (Vs b24 t.cells t.cells) t.cells (sm.of.map intV),.blk b3 276 (tabC t.cell t.cells (.slice An t.next.length cn) (.slice Aa t.acc.length ca))] w) rfl (⟨0,_,_,_,_,by omega,rfl,hm0 0 oM,rfl,rfl,hs⟩) fun m E w hI=>?_
 obtain ⟨k,sm,v9,v10,G2,hk,hsm,hmo,rfl,rfl,hs⟩:=hI
 have hN:=hN0.mono hs.le
 have hA:=hA0.mono hs.le
 have hB:=hB0.mono hs.le
 have hR:=hR0.mono hs.le
 refine Wt 2 [] hs rfl<|Zy hs (Yc rfl (fun h35=>?_) fun h35=>?_)
 ·
  refine Wp 15 [0,0,0] hs rfl<|Zy hs (Y_idxArr' k underlying274 sizeOf3 rfl rfl rfl oM ?_)
  obtain ⟨c,hce⟩:∃ c,c=t.cell.getD k 0:=⟨_,rfl⟩
  have hcc:c<t.cells:=by rw [hce,getD_lt oM];exact hcells _ (List.getElem_mem _)
  refine Zy hs (Y_ld 4 isAgg3 rfl rfl (show (tabC t.cell t.cells (.slice An t.next.length cn) (.slice Aa t.acc.length ca))[k]?=some (natV c) from by rw [hce];exact tabC_c hcl oM)<|Wp 7 [0] hs rfl<|Zy hs (Y_idxRow (c) underlying45 sizeOf3 rfl rfl rfl oM ?_))
  obtain ⟨z,hz⟩:∃ z,z=sm.of[c]'(by rw [hmo.ol];exact hcc):=⟨_,rfl⟩
  refine Zy hs (Y_ldRow 3 rfl isAgg3 rfl (show (sm.of.map intV)[c]?=some (intV z) from by rw [hz];exact int_row (by rw [hmo.ol];exact hcc))<|Zy hs (Yc rfl (fun h45=>?_) fun h45=>?_))
  ·
   have hz0:sm.of.getD c 0<0:=by rw [getD_lt (by rw [hmo.ol];exact hcc),← hz];exact h45
   refine Wp 6 [0] hs rfl<|Zy hs (Y_mul (c:=((2*R.length:Nat):Int)) rfl rfl oM oM<|O_s (S_make (n:=0) (m:=(2*R.length)) hs underlying99 TI5 rfl rfl rfl oM oM oM fun b49 _ hs =>Wp 9 [11,1,2,3,8,9,10,11,13,14,15,34,0] hs rfl ?_))
   have hs:=hs.f5.f5.f5.f5.f5.f5
   refine Zl [1,2,3,8,9,10,11,13,14,15,34,50,51,52] (fun m E w=>∃ (j:Nat) (vk:Value) (G2:Ghost),j≤R.length∧m=R.length-j∧E=⟨[],[(1,(.slice Ab B.length cb)),(2,(.slice Ar R.length cr)),(3,Vp b3),(8,.map (some b21)),(9,v9),(10,v10),(11,Vs b24 t.cells t.cells),(13,Vi (k:Int)),(14,Vi (c:Int)),(15,vk),(34,Vi (k:Int)),(50,(.slice Ar R.length cr)),(51,Vi ((R.length:Nat):Int)),(52,Vi (j:Int))]⟩∧St ⟨w0,G,feet []⟩ G2 (.row 5 1 vk (mgK t B (R.take j) c).length ((mgK t B (R.take j) c).map byteV)::[.obj b21 (.map (esOf strK sm.keys).toArray sm.keys.length),.row 3 1 (v9) sm.cells.length (sm.cells.map natV),.row 104 4 (v10) sm.cls.length (clsFl sm.cls),.row 3 1 (Vs b24 t.cells t.cells) t.cells (sm.of.map intV),.blk b3 276 (tabC t.cell t.cells (.slice An t.next.length cn) (.slice Aa t.acc.length ca))]) w) rfl (⟨0,_,_,by omega,rfl,rfl,hs⟩) fun m E w hI=>?_
   obtain ⟨j,vk,G2,hj,rfl,rfl,hs⟩:=hI
   have hN:=hN0.mono hs.le
   have hA:=hA0.mono hs.le
   have hB:=hB0.mono hs.le
   have hR:=hR0.mono hs.le
   refine Wt 2 [] hs rfl<|Zy hs (Yc rfl (fun h53=>?_) fun h53=>?_)
   ·
    refine Wp 8 [0] hs rfl<|Zy hs (Y_idxN hR j underlying45 sizeOf3 rfl rfl rfl oM fun p54 hp54=>?_)
    obtain ⟨s,hse⟩:∃ s,s=R[j]'oM:=⟨_,rfl⟩
    rw [← hse] at hp54
    have hsN:s<t.next.length:=hRN s Z31
    refine Zy hs (Yg rfl (hp54)<|Wp 6 [0,257] hs rfl<|Zy hs (Y_ld 5 isAgg36 rfl rfl (tabC_2 hcl)<|Wp 1 [] hs rfl<|Zy hs (Y_idxS hN s underlying36 sizeOf45 rfl rfl rfl oM fun p60 c60 hp60 hc60 hR60=>?_)))
    obtain ⟨rr,herr⟩:∃ r,r=t.next[s]'oM:=⟨_,rfl⟩
    rw [← herr] at hR60
    have hlrr:rr.length=t.cells∧∀ x∈rr,x<t.next.length:=hrows rr Z29
    obtain ⟨u60,rfl,hrr⟩:=hR60
    obtain ⟨A60,c60,rfl,_⟩:=id hrr
    refine Zy hs (Yg rfl (hp60 0 (.slice A60 rr.length c60) rfl)<|Wp 1 [] hs rfl<|Zy hs (Y_idxN hrr c underlying45 sizeOf3 rfl rfl rfl oM fun p63 hp63=>?_))
    obtain ⟨y,hye⟩:∃ y,y=rr[c]'oM:=⟨_,rfl⟩
    rw [← hye] at hp63
    have hyN:y<t.next.length:=hlrr.2 y Z34
    refine Zy hs (Yg rfl (hp63)<|Zy hs (Y_idxN hB y underlying45 sizeOf3 rfl rfl rfl oM fun p65 hp65=>?_))
    obtain ⟨x,hxe⟩:∃ x,x=B[y]'oM:=⟨_,rfl⟩
    rw [← hxe] at hp65
    refine Zy hs (Yg rfl (hp65)<|Wp 5 [15,1,2,3,8,9,10,11,13,14,15,18,34,50,51,52] hs rfl<|Zy hs (Y_conv underlying3 underlying5 (c:=((UInt8.ofNat x).toNat:Int)) rfl (u8wrap _)<|Wp 1 [] hs rfl<|Zy hs (Y_shr (c:=((x / 256:Nat):Int)) rfl rfl dC (shr_8 _)<|Zy hs (Y_conv underlying3 underlying5 (c:=((UInt8.ofNat (x / 256)).toNat:Int)) rfl (u8wrap _)<|O_s (S_lit hs underlying99 sizeOf5 zeroValue5 rfl rfl dC dC rfl (cs:=[_,_]) rfl rfl fun v1 _ hs _=>?_)))))
    obtain ⟨_,hG73,hl73,hs⟩:=hs.fixRow noM
    refine O_s (S_append hs underlying99 TI5 rfl dC rfl rfl (hl73) (one2) (by rw [mgK_len,List.length_take];omega) (by rw [mgK_len,List.length_take];omega) fun v2 _ hs =>Wp 3 [0] hs rfl<|Zy hs (Ya (s:=((j+1:Nat):Int)) rfl<|Wp 1 [] hs rfl ?_))
    have hs:=hs.f5.f5.f5.f5.f5.f5
    have hx1g:two x=two (B.getD (t.to R[j] c) 0):=by rw [← hse,to_at hsN (by rw [← herr];omega)];simp only [← herr,← hye];rw [getD_lt oM,← hxe]
    refine Zx [1,2,3,8,9,10,11,13,14,15,34,50,51,52] rfl ⟨j+1,_,_,by omega,rfl,rfl,by rw [mgK_succ oM,← hx1g,List.map_append,List.length_append];exact hs⟩
   refine Wp 4 [0] hs rfl ?_
   obtain rfl:j=R.length:=by omega
   rw [List.take_length] at hs
   obtain ⟨_,hG_hky,hky,hs⟩:=hs.fixRow noM
   replace hR:=hR.mono hG_hky
   replace hky:Bytes _ _ _:=hky
   have hnd:=hmo.nd
   refine Wu 4 [] hs rfl<|Zy hs (Y_str (bs:=(mgK t B R c)) underlying99 underlying5 underlying9 rfl hky<|Zy hs (Y_lookupK (a:=(mgK t B R c)) 0 rfl underlying339 keyS zeroValue3 hnd rfl rfl (fun hno=>?_) (fun hyes=>?_)))
   ·
    refine Wp 16 [0,13,1,2,3,8,9,10,11,13,14,15,19,34,84] hs rfl<|Zy hs (Y_lenOwn 1 rfl underlying45 rfl hs<|Wp 6 [0] hs rfl<|Zy hs (Y_str (bs:=(mgK t B R c)) underlying99 underlying5 underlying9 rfl hky<|Wp 1 [] hs rfl<|O_n (S_putK hs underlying339 keyS hnd hno rfl rfl (by rw [hmo.kl];rfl) fun _ hs =>Wp 5 [0] hs rfl<|O_s (S_lit hs underlying45 sizeOf3 zeroValue3 rfl rfl dC dC rfl (cs:=[_]) rfl rfl fun v3 _ hs _=>?_))))
    obtain ⟨_,hG93,hl93,hs⟩:=hs.fixRow noM
    replace hR:=hR.mono hG93
    refine O_s (S_append hs.f1 underlying45 TI3 rfl dC rfl rfl (hl93) (one1 rfl) (by have:=hmo.le;omega) (by have:=hmo.le;omega) fun v4 _ hs =>Wp 4 [11,1,2,3,8,9,10,11,13,14,19,34] hs rfl<|Zy hs (Y_buildA underlying104 sizeOf102 zeroValue104 rfl rfl (cs:=[_,_,_,_]) rfl<|O_s (S_lit hs underlying224 sizeOf104 zeroValue104 rfl rfl dC dC rfl (cs:=[_,_,_,_]) rfl rfl fun v5 _ hs _=>?_)))
    obtain ⟨_,hG97,hl97,hs⟩:=hs.fixRow noM
    replace hR:=hR.mono hG97
    refine O_s (S_append hs.f2 underlying224 TI104 rfl dC rfl rfl (hl97) (one_z4) (by have:=hmo.le;have:=hmo.cl;omega) (by have:=hmo.le;have:=hmo.cl;omega) fun v6 _ hs =>Wp 6 [0] hs rfl<|Zy hs (Y_idxRow (c) underlying45 sizeOf3 rfl rfl rfl oM<|O_n (S_stRow hs.f3 sizeOf3 rfl rfl rfl oM fun _ hs =>Wp 1 [0] hs rfl ?_)))
    have hs:=hs.f4.f1.f2.f3.f4
    replace hs:=hs.weak hs.le (Ghost.le.refl _) (List.sublist_append_left [_,_,_,_,_] _)
    obtain ⟨s2,hs2e⟩:∃ s,s=mgN t B R sm c:=⟨_,rfl⟩
    have hs2ok:=(mgN_ok (b:=B) (r:=R) hmo hcc).1
    have hz2:=(mgN_ok (b:=B) (r:=R) hmo hcc).2
    have hs2f:s2=if sm.of.getD c 0<0 then mgN t B R sm c else sm:=by rw [if_pos hz0];exact hs2e
    rw [← hs2e] at hs2ok hz2
    replace hs:=castH (H':=[.obj b21 (.map (esOf strK s2.keys).toArray s2.keys.length),.row 3 1 (v4) s2.cells.length (s2.cells.map natV),.row 104 4 (v6) s2.cls.length (clsFl s2.cls),.row 3 1 (Vs b24 t.cells t.cells) t.cells (s2.of.map intV),.blk b3 276 (tabC t.cell t.cells (.slice An t.next.length cn) (.slice Aa t.acc.length ca))]) hs (by rw [hs2e,mgN_new hno];simp [clsFl_snoc,natV,intV,u64V,List.map_set])
    have hc2:c<s2.of.length:=by rw [hs2ok.ol];exact hcc
    obtain ⟨ix,hix⟩:=Int.eq_ofNat_of_zero_le hz2
    rw [getD_lt hc2] at hix
    have hixl:ix<s2.cls.length:=by have h:=(hs2ok.lt s2.of[c] (List.getElem_mem _)).2;rw [hs2ok.cl];omega
    obtain ⟨b10,cap10,hb10,_⟩:=hs.rowForm 2 rfl oM
    subst hb10
    refine T_drawS [0,1,2,3,4,5,6,7,8,9,10,11,12,13,14,15,16,17] hs kR ?_
    replace hs:=hs.drew
    refine Xr [0,1,2] [] hs rfl<|Xt 3 hs rfl (Y_idxRow (c) underlying45 sizeOf3 rfl rfl rfl oM<|Xt 4 hs rfl (Y_ldRow 3 rfl isAgg3 rfl ((int_row hc2).trans (by rw [hix]))<|Xr [5,6,7] [] hs rfl<|Xt 8 hs rfl (Y_idxRow (c) underlying45 sizeOf3 rfl rfl rfl oM<|Xt 9 hs rfl (Y_ldRow 3 rfl isAgg3 rfl ((int_row hc2).trans (by rw [hix]))<|Xt 10 hs rfl (Y_idxRowK ix underlying224 sizeOf104 rfl rfl rfl hixl<|Xt 11 hs rfl (Y_ldRowK 2 rfl isAgg104 sizeOf104 rfl hixl (clsFl_at hs2ok.c4 hixl) Z17<|Xr [12] [] hs rfl<|Xt 13 hs rfl (Y_conv underlying3 underlying5 (c:=((UInt8.ofNat k).toNat:Int)) rfl (u8wrap _) ?_)))))))
    have hle:=hs.le
    refine Xo 14 rfl (S_lit hs underlying99 sizeOf5 zeroValue5 rfl rfl dC dC rfl (cs:=[_]) rfl rfl fun v7 _ hs _=>?_)
    obtain ⟨_,hG117,hl117,hs⟩:=hs.fixRow noM
    replace hR:=hR.mono hG117
    refine A_moreS hs hle hG117 (List.Sublist.refl _) ?_
    have hle:=hs.le
    refine Xo 15 rfl (Sc (of_ok (l:=[UInt8.ofNat k]) (Bytes.ofSl hl117 rfl rfl) (by show 1≤1000000000;omega)) hs rfl fun v8 G' H' _ hR hG118 hs=>?_)
    obtain ⟨rfl,rfl⟩:=hR
    replace hs:=hs.n rfl
    replace hR:=hR.mono hG118
    refine A_moreS hs hle hG118 (List.Sublist.refl _) ?_
    have hle:=hs.le
    refine Xo 16 rfl (Sc (union_ok (hs2ok.c4 _ (List.getElem_mem hixl)).1 (ofF_len _)) hs rfl fun v9 G' H' _ hR hG119 hs=>?_)
    obtain ⟨rfl,rfl⟩:=hR
    replace hs:=hs.n rfl
    refine A_moreS hs hle hG119 (List.Sublist.refl _)<|Xt 17 hs rfl (Y_idxRowK ix underlying224 sizeOf104 rfl rfl rfl hixl<|Xn 18 rfl (S_stRowK (vs:=(unionF (s2.cls[ix]'hixl) (ofF [UInt8.ofNat k])).map u64V) hs.f2 sizeOf104 rfl rfl Z14 (u64_all _) hixl fun _ hs =>Xe (Zk [1,2,3,8,9,10,11,34] rfl ?_)))
    refine Zr<|Zy hs (Ya (s:=((k+1:Nat):Int)) rfl<|Wp 1 [] hs rfl ?_)
    have hs:=hs.f4.f4.f2.f4.f4
    have hst:mgP t B R sm k=mgC s2 c k:=by rw [mgP_eq,← hce,hs2f]
    have hcs:(s2.cls.set ix (unionF s2.cls[ix] (ofF [UInt8.ofNat k])))=(mgC s2 c k).cls:=by unfold mgC;dsimp only;rw [getD_lt hc2,hix];simp only [Int.toNat_natCast];rw [getD_lt hixl]
    refine Zx [1,2,3,8,9,10,11,34] rfl ⟨k+1,mgC s2 c k,v4,_,_,by omega,by rw [mg_step,← hsm,hst],mgC_ok hs2ok hcc (by rw [getD_lt hc2,hix];omega),rfl,rfl,castH hs Z25⟩
   refine Wp 18 [0,13,1,2,3,8,9,10,11,13,14,15,19,34,84] hs rfl<|Zy hs (Y_idxRow (c) underlying45 sizeOf3 rfl rfl rfl oM<|O_n (S_stRow hs.f3 sizeOf3 rfl rfl rfl oM fun _ hs =>Wp 1 [0] hs rfl ?_))
   have hs:=hs.f4.f1.f4.f4.f4
   replace hs:=hs.weak hs.le (Ghost.le.refl _) (List.sublist_append_left [_,_,_,_,_] _)
   obtain ⟨s2,hs2e⟩:∃ s,s=mgN t B R sm c:=⟨_,rfl⟩
   have hs2ok:=(mgN_ok (b:=B) (r:=R) hmo hcc).1
   have hz2:=(mgN_ok (b:=B) (r:=R) hmo hcc).2
   have hs2f:s2=if sm.of.getD c 0<0 then mgN t B R sm c else sm:=by rw [if_pos hz0];exact hs2e
   rw [← hs2e] at hs2ok hz2
   replace hs:=castH (H':=[.obj b21 (.map (esOf strK s2.keys).toArray s2.keys.length),.row 3 1 (v9) s2.cells.length (s2.cells.map natV),.row 104 4 (v10) s2.cls.length (clsFl s2.cls),.row 3 1 (Vs b24 t.cells t.cells) t.cells (s2.of.map intV),.blk b3 276 (tabC t.cell t.cells (.slice An t.next.length cn) (.slice Aa t.acc.length ca))]) hs (by rw [hs2e,mgN_old hyes];simp [clsFl_snoc,natV,intV,u64V,List.map_set])
   have hc2:c<s2.of.length:=by rw [hs2ok.ol];exact hcc
   obtain ⟨ix,hix⟩:=Int.eq_ofNat_of_zero_le hz2
   rw [getD_lt hc2] at hix
   have hixl:ix<s2.cls.length:=by have h:=(hs2ok.lt s2.of[c] (List.getElem_mem _)).2;rw [hs2ok.cl];omega
   obtain ⟨b10,cap10,hb10,_⟩:=hs.rowForm 2 rfl oM
   subst hb10
   refine T_drawS [0,1,2,3,4,5,6,7,8,9,10,11,12,13,14,15,16,17] hs kR ?_
   replace hs:=hs.drew
   refine Xr [0,1,2] [] hs rfl<|Xt 3 hs rfl (Y_idxRow (c) underlying45 sizeOf3 rfl rfl rfl oM<|Xt 4 hs rfl (Y_ldRow 3 rfl isAgg3 rfl ((int_row hc2).trans (by rw [hix]))<|Xr [5,6,7] [] hs rfl<|Xt 8 hs rfl (Y_idxRow (c) underlying45 sizeOf3 rfl rfl rfl oM<|Xt 9 hs rfl (Y_ldRow 3 rfl isAgg3 rfl ((int_row hc2).trans (by rw [hix]))<|Xt 10 hs rfl (Y_idxRowK ix underlying224 sizeOf104 rfl rfl rfl hixl<|Xt 11 hs rfl (Y_ldRowK 2 rfl isAgg104 sizeOf104 rfl hixl (clsFl_at hs2ok.c4 hixl) Z17<|Xr [12] [] hs rfl<|Xt 13 hs rfl (Y_conv underlying3 underlying5 (c:=((UInt8.ofNat k).toNat:Int)) rfl (u8wrap _) ?_)))))))
   have hle:=hs.le
   refine Xo 14 rfl (S_lit hs underlying99 sizeOf5 zeroValue5 rfl rfl dC dC rfl (cs:=[_]) rfl rfl fun v10 _ hs _=>?_)
   obtain ⟨_,hG117,hl117,hs⟩:=hs.fixRow noM
   replace hR:=hR.mono hG117
   refine A_moreS hs hle hG117 (List.Sublist.refl _) ?_
   have hle:=hs.le
   refine Xo 15 rfl (Sc (of_ok (l:=[UInt8.ofNat k]) (Bytes.ofSl hl117 rfl rfl) (by show 1≤1000000000;omega)) hs rfl fun v11 G' H' _ hR hG118 hs=>?_)
   obtain ⟨rfl,rfl⟩:=hR
   replace hs:=hs.n rfl
   replace hR:=hR.mono hG118
   refine A_moreS hs hle hG118 (List.Sublist.refl _) ?_
   have hle:=hs.le
   refine Xo 16 rfl (Sc (union_ok (hs2ok.c4 _ (List.getElem_mem hixl)).1 (ofF_len _)) hs rfl fun v12 G' H' _ hR hG119 hs=>?_)
   obtain ⟨rfl,rfl⟩:=hR
   replace hs:=hs.n rfl
   refine A_moreS hs hle hG119 (List.Sublist.refl _)<|Xt 17 hs rfl (Y_idxRowK ix underlying224 sizeOf104 rfl rfl rfl hixl<|Xn 18 rfl (S_stRowK (vs:=(unionF (s2.cls[ix]'hixl) (ofF [UInt8.ofNat k])).map u64V) hs.f2 sizeOf104 rfl rfl Z14 (u64_all _) hixl fun _ hs =>Xe (Zk [1,2,3,8,9,10,11,34] rfl ?_)))
   refine Zr<|Zy hs (Ya (s:=((k+1:Nat):Int)) rfl<|Wp 1 [] hs rfl ?_)
   have hs:=hs.f4.f4.f2.f4.f4
   have hst:mgP t B R sm k=mgC s2 c k:=by rw [mgP_eq,← hce,hs2f]
   have hcs:(s2.cls.set ix (unionF s2.cls[ix] (ofF [UInt8.ofNat k])))=(mgC s2 c k).cls:=by unfold mgC;dsimp only;rw [getD_lt hc2,hix];simp only [Int.toNat_natCast];rw [getD_lt hixl]
   refine Zx [1,2,3,8,9,10,11,34] rfl ⟨k+1,mgC s2 c k,v9,_,_,by omega,by rw [mg_step,← hsm,hst],mgC_ok hs2ok hcc (by rw [getD_lt hc2,hix];omega),rfl,rfl,castH hs Z25⟩
  have hz0:¬ sm.of.getD c 0<0:=by rw [getD_lt (by rw [hmo.ol];exact hcc),← hz];exact h45
  refine Wp 3 [0] hs rfl ?_
  have hs:=hs.f4.f4.f4.f4.f4
  replace hs:=hs.weak hs.le (Ghost.le.refl _) (List.sublist_append_left [_,_,_,_,_] _)
  obtain ⟨s2,hs2e⟩:∃ s,s=sm:=⟨_,rfl⟩
  have hs2ok:=hmo.up
  have hz2:0≤sm.of.getD c 0:=by omega
  have hs2f:s2=if sm.of.getD c 0<0 then mgN t B R sm c else sm:=by rw [if_neg hz0];exact hs2e
  rw [← hs2e] at hs2ok hz2
  replace hs:=castH (H':=[.obj b21 (.map (esOf strK s2.keys).toArray s2.keys.length),.row 3 1 (v9) s2.cells.length (s2.cells.map natV),.row 104 4 (v10) s2.cls.length (clsFl s2.cls),.row 3 1 (Vs b24 t.cells t.cells) t.cells (s2.of.map intV),.blk b3 276 (tabC t.cell t.cells (.slice An t.next.length cn) (.slice Aa t.acc.length ca))]) hs (by rw [hs2e])
  have hc2:c<s2.of.length:=by rw [hs2ok.ol];exact hcc
  obtain ⟨ix,hix⟩:=Int.eq_ofNat_of_zero_le hz2
  rw [getD_lt hc2] at hix
  have hixl:ix<s2.cls.length:=by have h:=(hs2ok.lt s2.of[c] (List.getElem_mem _)).2;rw [hs2ok.cl];omega
  obtain ⟨b10,cap10,hb10,_⟩:=hs.rowForm 2 rfl oM
  subst hb10
  refine T_drawS [0,1,2,3,4,5,6,7,8,9,10,11,12,13,14,15,16,17] hs kR ?_
  replace hs:=hs.drew
  refine Xr [0,1,2] [] hs rfl<|Xt 3 hs rfl (Y_idxRow (c) underlying45 sizeOf3 rfl rfl rfl oM<|Xt 4 hs rfl (Y_ldRow 3 rfl isAgg3 rfl ((int_row hc2).trans (by rw [hix]))<|Xr [5,6,7] [] hs rfl<|Xt 8 hs rfl (Y_idxRow (c) underlying45 sizeOf3 rfl rfl rfl oM<|Xt 9 hs rfl (Y_ldRow 3 rfl isAgg3 rfl ((int_row hc2).trans (by rw [hix]))<|Xt 10 hs rfl (Y_idxRowK ix underlying224 sizeOf104 rfl rfl rfl hixl<|Xt 11 hs rfl (Y_ldRowK 2 rfl isAgg104 sizeOf104 rfl hixl (clsFl_at hs2ok.c4 hixl) Z17<|Xr [12] [] hs rfl<|Xt 13 hs rfl (Y_conv underlying3 underlying5 (c:=((UInt8.ofNat k).toNat:Int)) rfl (u8wrap _) ?_)))))))
  have hle:=hs.le
  refine Xo 14 rfl (S_lit hs underlying99 sizeOf5 zeroValue5 rfl rfl dC dC rfl (cs:=[_]) rfl rfl fun v13 _ hs _=>?_)
  obtain ⟨_,hG117,hl117,hs⟩:=hs.fixRow noM
  replace hR:=hR.mono hG117
  refine A_moreS hs hle hG117 (List.Sublist.refl _) ?_
  have hle:=hs.le
  refine Xo 15 rfl (Sc (of_ok (l:=[UInt8.ofNat k]) (Bytes.ofSl hl117 rfl rfl) (by show 1≤1000000000;omega)) hs rfl fun v14 G' H' _ hR hG118 hs=>?_)
  obtain ⟨rfl,rfl⟩:=hR
  replace hs:=hs.n rfl
  replace hR:=hR.mono hG118
  refine A_moreS hs hle hG118 (List.Sublist.refl _) ?_
  have hle:=hs.le
  refine Xo 16 rfl (Sc (union_ok (hs2ok.c4 _ (List.getElem_mem hixl)).1 (ofF_len _)) hs rfl fun v15 G' H' _ hR hG119 hs=>?_)
  obtain ⟨rfl,rfl⟩:=hR
  replace hs:=hs.n rfl
  refine A_moreS hs hle hG119 (List.Sublist.refl _)<|Xt 17 hs rfl (Y_idxRowK ix underlying224 sizeOf104 rfl rfl rfl hixl<|Xn 18 rfl (S_stRowK (vs:=(unionF (s2.cls[ix]'hixl) (ofF [UInt8.ofNat k])).map u64V) hs.f2 sizeOf104 rfl rfl Z14 (u64_all _) hixl fun _ hs =>Xe (Zk [1,2,3,8,9,10,11,34] rfl ?_)))
  refine Zr<|Zy hs (Ya (s:=((k+1:Nat):Int)) rfl<|Wp 1 [] hs rfl ?_)
  have hs:=hs.f4.f4.f2.f4.f4
  have hst:mgP t B R sm k=mgC s2 c k:=by rw [mgP_eq,← hce,hs2f]
  have hcs:(s2.cls.set ix (unionF s2.cls[ix] (ofF [UInt8.ofNat k])))=(mgC s2 c k).cls:=by unfold mgC;dsimp only;rw [getD_lt hc2,hix];simp only [Int.toNat_natCast];rw [getD_lt hixl]
  refine Zx [1,2,3,8,9,10,11,34] rfl ⟨k+1,mgC s2 c k,v9,_,_,by omega,by rw [mg_step,← hsm,hst],mgC_ok hs2ok hcc (by rw [getD_lt hc2,hix];omega),rfl,rfl,castH hs Z25⟩
 refine Wp 4 [0] hs rfl<|Wu 7 [0] hs rfl<|T_ret ?_
 obtain rfl:k=256:=by omega
 have hs:=hs.f1
 obtain ⟨_,hG_hf9,hf9,hs⟩:=hs.fixRow noM
 have hs:=hs.f1
 obtain ⟨_,hG_hf10,hf10,hs⟩:=hs.fixRow noM
 replace hf9:=hf9.mono hG_hf10
 refine Rt_fin (vs:=[_,_]) results277 rfl ⟨rfl,rfl,trivial⟩ ?_
 try dsimp only [tup]
 have hmm:sm=mergeF t B R:=hsm
 exact ⟨_,[],hs.done,rfl,_,_,rfl,by rw [← hmm];exact hf9,by rw [← hmm];exact clsL_of hf10 hmo.c4⟩
theorem PL226:places prog 226=some [(0,1),(1,1),(2,1)]:=by kernel_rfl
theorem TI45:TI prog 45 (Vn) 1 24:=TI.of kR
def LRows (G:Ghost) (vs:List Value) (l:List (List Nat)):Prop:=All2 (fun v r=>Nats G v r) vs l
theorem LRows.mono {G G':Ghost} (h:G.le G') {vs:List Value} {l:List (List Nat)} (hl:LRows G vs l):LRows G' vs l:=All2.mono (fun _ _ hn=>hn.mono h) hl
theorem LRows.snoc {G:Ghost} {vs:List Value} {l:List (List Nat)} {v:Value} {r:List Nat} (hl:LRows G vs l) (h:Nats G v r):LRows G (vs++[v]) (l++[r]):=All2.snoc hl h
theorem LRows.one {G:Ghost}:∀ {vs:List Value} {l:List (List Nat)},LRows G vs l→∀ y∈vs,y.oneCell'=true
  | [],_,_,y,hy=>by cases hy
  | v::vs,r::l,h,y,hy=>by
    rcases List.mem_cons.1 hy with rfl | hy
    · obtain ⟨A,c,rfl,_⟩:=h.1;rfl
    · exact LRows.one h.2 y hy
theorem LRows.fin {G:Ghost} {v:Value} {n:Nat} {vs:List Value} {l:List (List Nat)} (h:Sl G v 1 n vs) (hn:n=l.length) (hl:LRows G vs l):LN G v l:=by
  refine LstR.ofSl (cs:=vs.map fun v=>[v]) h (by clear h hl;induction vs with | nil=>rfl | cons v vs ih=>rw [List.map_cons,List.flatten_cons,← ih];rfl) hn ?_ sM
  revert hl
  clear h hn
  induction vs generalizing l with
  | nil=>intro h;cases l with
    | nil=>trivial
    | cons _ _=>cases h
  | cons v vs ih=>intro h;cases l with
    | nil=>cases h
    | cons r l=>exact ⟨⟨v,rfl,h.1⟩,ih h.2⟩
theorem rch_inv {n:Nat}:∀ (r:List Nat) (st:Rch),st.1.length=n→(∀ x∈st.2,x<n)→st.2.length+st.1.count false=n→1≤st.2.length→(∀ x∈r,x<n) →
    (r.foldl rchP st).1.length=n∧(∀ x∈(r.foldl rchP st).2,x<n)∧(r.foldl rchP st).2.length+(r.foldl rchP st).1.count false=n∧1≤(r.foldl rchP st).2.length
  | [],_,h1,h2,h3,h4,_=>⟨h1,h2,h3,h4⟩
  | x::r,(sn,l),h1,h2,h3,h4,h5=>by
    have hx:=h5 x sM
    rw [List.foldl_cons]
    cases hb:sn[x]'(by dsimp only at h1;omega) with
    | true=>rw [rchP_no (st:=(sn,l)) (by dsimp only at h1 ⊢;omega) hb];exact rch_inv r _ h1 h2 h3 h4 fun y hy=>h5 y (by simp [hy])
    | false =>
      rw [rchP_yes (st:=(sn,l)) (by dsimp only at h1 ⊢;omega) hb]
      have hc:=cnt_set (l:=sn) (x:=x) (by dsimp only at h1;omega) hb
      dsimp only at h1 h2 h3 h4
      refine rch_inv r _ (by rw [List.length_set];exact h1) ?_ (by simp only [List.length_append,List.length_singleton];omega) sM fun y hy=>h5 y (by simp [hy])
      intro y hy
      rcases List.mem_append.1 hy with hy | hy
      · exact h2 y hy
      · rw [List.mem_singleton.1 hy];exact hx
theorem rchG_inv {t:Tb} (hok:t.ok) {L:List Nat}:∀ (f i:Nat) (st:Rch),st.1.length=t.next.length→(∀ x∈st.2,x<t.next.length)→st.2.length+st.1.count false=t.next.length→1≤st.2.length→rchG t f i st=some L →
    1≤L.length∧L.length≤t.next.length∧∀ x∈L,x<t.next.length
  | 0,_,_,_,_,_,_,h=>by cases h
  | f+1,i,st,h1,h2,h3,h4,h=>by
    rw [rchG] at h
    split at h
    · rename_i hi
      have hs:st.2.getD i 0<t.next.length:=h2 _ (by rw [getD_lt hi];exact List.getElem_mem _)
      obtain ⟨a,b,c,d⟩:=rch_inv (n:=t.next.length) (t.next.getD (st.2.getD i 0) []) st h1 h2 h3 h4 (by rw [getD_lt hs];exact (hok.2.2.2.2.1 _ (List.getElem_mem _)).2)
      exact rchG_inv hok f (i+1) _ a b c d h
    · injection h with h;subst h
      exact ⟨h4,by omega,h2⟩
theorem reach_inv {t:Tb} (hok:t.ok) {L:List Nat} (h:reachF t=some L):1≤L.length∧L.length≤t.next.length∧∀ x∈L,x<t.next.length:=by
  have h1:=hok.1
  refine rchG_inv hok _ _ _ ?_ ?_ ?_ ?_ h
  · simp
  · intro x hx;simp only [List.mem_singleton] at hx;omega
  · have:=cnt_set (l:=List.replicate t.next.length false) (x:=0) Z50 sM
    simp only [List.count_replicate_self] at this
    simp only [List.length_singleton];omega
  · simp
structure RfOk (n:Nat) (l:List Nat) (st:Rf):Prop where
  kl:st.keys.length=st.reps.length
  nl:st.next.length=n
  lt:∀ x∈st.next,x<st.reps.length∨x=0
  mem:∀ x∈st.reps,x∈l
theorem rfP_ok {t:Tb} {b:List Nat} {n:Nat} {l:List Nat} {st:Rf} {s:Nat} (h:RfOk n l st) (hs:s∈l):RfOk n l (rfP t b st s)∧1≤(rfP t b st s).reps.length∧(rfP t b st s).reps.length≤st.reps.length+1:=by
  obtain ⟨ks,nx,rp⟩:=st
  have hkl:ks.length=rp.length:=h.kl
  by_cases hk:posK (keyF t b s) ks<ks.length
  · rw [rfP_old hk]
    refine ⟨⟨h.kl,by simpa using h.nl,fun x hx=>?_,h.mem⟩,by dsimp only;omega,by dsimp only;omega⟩
    rcases List.mem_or_eq_of_mem_set hx with hx | rfl
    · exact h.lt x hx
    · left;dsimp only;omega
  · rw [rfP_new hk]
    refine ⟨⟨by simp [hkl],by simpa using h.nl,fun x hx=>?_,fun x hx=>?_⟩,by simp,by simp⟩
    · rcases List.mem_or_eq_of_mem_set hx with hx | rfl
      · rcases h.lt x hx with h1 | h1
        · left;dsimp only at h1 ⊢;rw [List.length_append];omega
        · exact .inr h1
      · left;simp
    · rcases List.mem_append.1 hx with hx | hx
      · exact h.mem x hx
      · rw [List.mem_singleton.1 hx];exact hs
theorem rf_all {t:Tb} {b:List Nat} {n:Nat} {l:List Nat}:∀ (r:List Nat) (st:Rf),RfOk n l st→(∀ x∈r,x∈l)→(r≠[]∨1≤st.reps.length)→RfOk n l (r.foldl (rfP t b) st)∧1≤(r.foldl (rfP t b) st).reps.length∧(r.foldl (rfP t b) st).reps.length≤st.reps.length+r.length
  | [],st,h,_,h2=>⟨h,h2.resolve_left sM,by simp⟩
  | s::r,st,h,h1,_=>by
    rw [List.foldl_cons]
    obtain ⟨a,b1,c⟩:=rfP_ok (t:=t) (b:=b) h (h1 s sM)
    obtain ⟨d,e,f⟩:=rf_all (t:=t) (b:=b) r _ a (fun x hx=>h1 x (by simp [hx])) (.inr b1)
    exact ⟨d,e,by rw [List.length_cons];omega⟩
theorem rfG_inv {t:Tb} {n:Nat} {l B R:List Nat} (hl:1≤l.length):∀ (f:Nat) (b:List Nat) (c:Nat),b.length=n→rfG t l f b c=some (B,R)→B.length=n∧1≤R.length∧R.length≤l.length∧(∀ x∈B,x<R.length)∧∀ x∈R,x∈l
  | 0,_,_,_,h=>by cases h
  | f+1,b,c,hb,h=>by
    have key:=rf_all (t:=t) (b:=b) (n:=n) (l:=l) l ⟨[],List.replicate b.length 0,[]⟩ ⟨rfl,by simpa using hb,fun x hx=>.inr (List.eq_of_mem_replicate hx),by simp⟩ (fun _ h=>h) (.inl (by intro e;subst e;simp at hl))
    rw [rfG] at h
    split at h
    · injection h with h;rw [Prod.mk.injEq] at h
      obtain ⟨rfl,rfl⟩:=h
      obtain ⟨a,b1,c1⟩:=key
      refine ⟨a.nl,b1,by simp only [List.length_nil,Nat.zero_add] at c1;exact c1,fun x hx=>?_,a.mem⟩
      rcases a.lt x hx with h | h
      · exact h
      · rw [h];exact b1
    · exact rfG_inv hl f _ _ key.1.nl h
theorem refine_inv {t:Tb} {l B R:List Nat} (hl:1≤l.length) (h:refineF t l=some (B,R)):B.length=t.next.length∧1≤R.length∧R.length≤l.length∧(∀ x∈B,x<R.length)∧∀ x∈R,x∈l:=by
  refine rfG_inv hl _ _ _ ?_ h
  unfold rfB
  have:∀ (l:List Nat) (b:List Nat),(l.foldl (fun b s=>if t.acc.getD s false=true then b.set s 1 else b) b).length=b.length:=by
    intro l
    induction l with
    | nil=>intro b;rfl
    | cons s l ih=>intro b;rw [List.foldl_cons,ih];split<;>simp
  rw [this];simp
theorem merge_inv {t:Tb} (hok:t.ok) {B R:List Nat} (hcl:t.cell.length=256):MgOk t 256 (mergeF t B R):=mg_all hcl hok.2.2.2.2.2 256 oM
theorem merge_cells {t:Tb} (hok:t.ok) {B R:List Nat} (hcl:t.cell.length=256):∀ c∈(mergeF t B R).cells,c<t.cells:=by
  have key:∀ (xs:List Nat) (st:Mg),(∀ x∈xs,x<256)→(∀ c∈st.cells,c<t.cells)→∀ c∈(xs.foldl (mgP t B R) st).cells,c<t.cells:=by
    intro xs
    induction xs with
    | nil=>intro st _ h;exact h
    | cons x xs ih =>
      intro st hx h
      rw [List.foldl_cons]
      refine ih _ (fun y hy=>hx y (by simp [hy])) ?_
      have hc:t.cell.getD x 0<t.cells:=by rw [getD_lt (by rw [hcl];exact hx x sM)];exact hok.2.2.2.2.2 _ (List.getElem_mem _)
      intro c hcm
      unfold mgP at hcm
      dsimp only at hcm
      split at hcm
      · unfold mgN at hcm
        dsimp only at hcm
        split at hcm
        · exact h c hcm
        · rcases List.mem_append.1 hcm with hcm | hcm
          · exact h c hcm
          · rw [List.mem_singleton.1 hcm];exact hc
      · exact h c hcm
  exact key _ _ (fun x hx=>List.mem_range.1 hx) sM
structure CnOk (m k:Nat) (st:Cn):Prop where
  pl:st.place.length=m
  od:st.order.length+st.place.count (-1)=m
  lt:∀ x∈st.order,x<m
  rg:∀ z∈st.place,z=-1∨(0≤z∧z<st.order.length)
  rw:st.row.length=k
theorem cnt_setI {l:List Int} {x:Nat} {z:Int} (h:x<l.length) (hx:l[x]=-1) (hz:0≤z):(l.set x z).count (-1)+1=l.count (-1):=by
  rw [List.count_set (h:=h),hx]
  have:0<l.count (-1):=List.count_pos_iff.2 (by rw [← hx];exact List.getElem_mem h)
  have hz1:(z == -1)=false:=by simp;omega
  simp [hz1];omega
theorem cnP_eq {t:Tb} {b:List Nat} {s c x:Nat} {st:Cn} (h:x=b.getD (t.to s c) 0):cnP t b s st c =
    (let st:=if st.place.getD x 0<0 then { st with place:=st.place.set x (st.order.length:Int),order:=st.order++[x] } else st
     { st with row:=st.row++[(st.place.getD x 0).toNat] }):=by unfold cnP;rw [h]
theorem cn_step {m k:Nat} {st:Cn} {x:Nat} (h:CnOk m k st) (hx:x<m) {st2:Cn} (h2:st2=if st.place.getD x 0<0 then { st with place:=st.place.set x (st.order.length:Int),order:=st.order++[x] } else st) :
    CnOk m k st2∧0≤st2.place.getD x 0∧st2.place.getD x 0<st2.order.length:=by
  obtain ⟨pl,od,rw_⟩:=st
  have hp:pl.length=m:=h.pl
  have hl:x<pl.length:=by omega
  split at h2
  · rename_i hz
    subst h2
    dsimp only at hz
    rw [getD_lt hl] at hz
    have hz1:pl[x]=-1:=by rcases h.rg _ (List.getElem_mem hl) with e | e;exact e;omega
    have hc:=cnt_setI (z:=(od.length:Int)) hl hz1 oM
    have hod:od.length+pl.count (-1)=m:=h.od
    refine ⟨⟨by simpa using hp,?_,?_,?_,h.rw⟩,?_,?_⟩
    · simp only [List.length_append,List.length_singleton];omega
    · intro y hy
      rcases List.mem_append.1 hy with hy | hy
      · exact h.lt y hy
      · rw [List.mem_singleton.1 hy];exact hx
    · intro z hz
      rcases List.mem_or_eq_of_mem_set hz with hz | rfl
      · rcases h.rg z hz with e | e
        · exact .inl e
        · right;simp only [List.length_append,List.length_singleton];dsimp only at e;omega
      · right;simp only [List.length_append,List.length_singleton];omega
    · simp [hl]
    · simp [hl];omega
  · rename_i hz
    subst h2
    dsimp only at hz ⊢
    refine ⟨h,by omega,?_⟩
    rw [getD_lt hl] at hz ⊢
    rcases h.rg _ (List.getElem_mem hl) with e | e
    · omega
    · exact e.2
theorem cn_init {m b:Nat} (hb:b<m):CnOk m 0 ⟨(List.replicate m (-1)).set b 0,[b],[]⟩:=by
  have hc:=cnt_setI (l:=List.replicate m (-1)) (x:=b) (z:=0) (by simpa using hb) sM oM
  rw [List.count_replicate_self] at hc
  refine ⟨by simp,by simp only [List.length_singleton];omega,?_,?_,rfl⟩
  · intro x hx;rw [List.mem_singleton.1 hx];exact hb
  · intro z hz
    rcases List.mem_or_eq_of_mem_set hz with hz | rfl
    · exact .inl (List.eq_of_mem_replicate hz)
    · right;simp
theorem fillN_step {r:List Nat} {n k v:Nat} (hr:r.length=k) (h:k<n):(r++List.replicate (n-k) 0).set k v=(r++[v])++List.replicate (n-(k+1)) 0:=by
  subst hr
  rw [List.set_append_right _ _ oM,Nat.sub_self,show n-r.length=(n-(r.length+1))+1 by omega,List.replicate_succ,List.set_cons_zero,List.append_assoc];rfl
theorem CnOk.snoc {m k:Nat} {st:Cn} {v:Nat} (h:CnOk m k st):CnOk m (k+1) { st with row:=st.row++[v] }:=⟨h.pl,h.od,h.lt,h.rg,by simp [h.rw]⟩
theorem CnOk.le {m k:Nat} {st:Cn} (h:CnOk m k st):st.order.length≤m:=by have:=h.od;omega
theorem CnOk.fresh {m k:Nat} {st:Cn} {x:Nat} (h:CnOk m k st) (hx:x<st.place.length) (hz:st.place.getD x 0<0):st.order.length+1≤m:=by
  rw [getD_lt hx] at hz
  have hz1:st.place[x]=-1:=by rcases h.rg _ (List.getElem_mem hx) with e | e;exact e;omega
  have:0<st.place.count (-1):=List.count_pos_iff.2 (by rw [← hz1];exact List.getElem_mem hx)
  have:=h.od
  omega
theorem cnG_pos {t:Tb} {b r cells od:List Nat} {pl:List Int} {f i:Nat} {nx:List (List Nat)} {ac:List Bool} {D:List (List Nat)×List Bool} (h:cnG t b r cells f i pl od nx ac=some D):0<f:=by
  cases f with
  | zero=>cases h
  | succ f=>omega
theorem cnG_go {t:Tb} {b r cells od:List Nat} {pl:List Int} {f i s:Nat} {nx:List (List Nat)} {ac:List Bool} {D:List (List Nat)×List Bool} {st:Cn} (hi:i<od.length) (hs:s=r.getD (od.getD i 0) 0) (hst:st=cells.foldl (cnP t b s) ⟨pl,od,[]⟩) (h:cnG t b r cells (f+1) i pl od nx ac=some D) :
    cnG t b r cells f (i+1) st.place st.order (nx++[st.row]) (ac++[t.acc.getD s false])=some D:=by
  rw [cnG,if_pos hi] at h
  subst hs hst
  exact h
theorem cnG_end {t:Tb} {b r cells od:List Nat} {pl:List Int} {f i:Nat} {nx:List (List Nat)} {ac:List Bool} {D:List (List Nat)×List Bool} (hi:od.length≤i) (h:cnG t b r cells f i pl od nx ac=some D):D=(nx,ac):=by
  cases f with
  | zero=>cases h
  | succ f=>rw [cnG,if_neg oM] at h;injection h with h;exact h.symm
def DfR (G:Ghost) (v:Value) (d:Dfa):Prop:=∃ vc vn va,v=.agg #[vc,vn,va]∧ClsL G vc d.cls∧LN G vn d.next∧Bools G va d.acc
theorem DfR.mono {G G':Ghost} (h:G.le G') {v:Value} {d:Dfa} (hd:DfR G v d):DfR G' v d:=by
  obtain ⟨vc,vn,va,e,h1,h2,h3⟩:=hd
  exact ⟨vc,vn,va,e,h1.mono h,h2.mono h,h3.mono h⟩
theorem canon_some {t:Tb} {D:Dfa} (h:canonF t=some D):∃ l B R,reachF t=some l∧refineF t l=some (B,R)∧∃ nx ac,cnG t B R (mergeF t B R).cells (R.length+1) 0 ((List.replicate R.length (-1)).set (B.getD 0 0) 0) [B.getD 0 0] [] []=some (nx,ac)∧D=⟨(mergeF t B R).cls,nx,ac⟩:=by
  unfold canonF at h
  split at h
  · cases h
  · rename_i l hl
    split at h
    · cases h
    · rename_i B R hR
      simp only at h
      split at h
      · cases h
      · rename_i nx ac hc
        injection h with h
        exact ⟨l,B,R,hl,hR,nx,ac,hc,h.symm⟩
theorem canon_ok {G:Ghost} {v:Value} {t:Tb} {D:Dfa} (ht:TbR G v t) (hok:t.ok) (hD:canonF t=some D) :
  FnOk prog 236 [v] G [] fun r G' H'=>H'=[]∧DfR G' r D:=by
 obtain ⟨un,ua,rfl,hcl,hN,hA⟩:=ht
 obtain ⟨An,cn,rfl⟩:=LstR.slice hN
 obtain ⟨Aa,ca,rfl,_⟩:=id hA
 obtain ⟨L,B,R,hL,hRf,nx0,ac0,hcg,rfl⟩:=canon_some hD
 obtain ⟨hL1,hL2,hLN⟩:=reach_inv hok hL
 obtain ⟨hBl,hR1,hR2,hBR,hRL⟩:=refine_inv hL1 hRf
 have hn2:=hok.2.1
 have hal:=hok.2.2.1
 have hrows:=hok.2.2.2.2.1
 have hmg:=merge_inv (B:=B) (R:=R) hok hcl
 have hRN:∀ x∈R,x<t.next.length:=fun x hx=>hLN x (hRL x hx)
 have hml:=hmg.le
 have hmc:=merge_cells (B:=B) (R:=R) hok hcl
 obtain ⟨M,hM⟩:∃ M,M=mergeF t B R:=⟨_,rfl⟩
 rw [← hM] at hcg hmg hml hmc ⊢
 refine FnOk.of_T [(0,_)] func236 rfl ntmps236 sM rfl fun w0 hs=>?_
 have hN0:=hN
 have hA0:=hA
 refine Wt 2 [] hs rfl<|O_s (S_box hs rfl (cs:=_) rfl fun b1 _ hs =>O_s (Sa hs zeroValue226 rfl fun b2 _ hs=>Wp 2 [0] hs rfl<|T_drawS [0,1,2,3,4,5,6,7,8] hs kR ?_))
 replace hs:=hs.drew
 refine Xt 0 hs rfl (Yk 1 rfl (tabC_len hcl)<|Xt 1 hs rfl (Yk 1 rfl (tabC_len hcl) ?_))
 have hle:=hs.le
 refine Xo 2 rfl (Sc (rch_ok ⟨_,_,rfl,hcl,hN,hA⟩ hok hL) hs rfl fun v1 G' H' _ hR hG20 hs=>?_)
 obtain ⟨rfl,hLv⟩:=hR
 replace hs:=hs.n rfl
 replace hN:=hN.mono hG20
 replace hA:=hA.mono hG20
 obtain ⟨AL,cL,rfl,_⟩:=id hLv
 refine A_moreS hs hle hG20 (List.Sublist.refl _) ?_
 have hle:=hs.le
 refine Xo 3 rfl (Sc (refine_ok ⟨_,_,rfl,hcl,hN,hA⟩ hok hLv oM hLN hRf) hs rfl fun v2 G' H' _ hR hG21 hs=>?_)
 obtain ⟨rfl,vb,vr,rfl,hB,hR⟩:=hR
 replace hs:=hs.n rfl
 replace hN:=hN.mono hG21
 replace hA:=hA.mono hG21
 obtain ⟨AB,cB,rfl,_⟩:=id hB
 obtain ⟨AR,cR,rfl,_⟩:=id hR
 refine A_moreS hs hle hG21 (List.Sublist.refl _)<|Xr [4,5,6,7,8] [] hs rfl<|Xe (Zk [1,2,3,4] rfl<|Wu 2 [] hs rfl<|Zy hs (Yk 1 rfl (tabC_len hcl)<|Wp 2 [] hs rfl<|O_s (Sc (merge_ok ⟨_,_,rfl,hcl,hN,hA⟩ hok hB hR hBl oM hRN) hs rfl fun v3 G' H' _ hR hG28 hs=>?_)))
 obtain ⟨rfl,vc,vk,rfl,hCe,hCl⟩:=hR
 replace hs:=hs.n rfl
 replace hN:=hN.mono hG28
 replace hA:=hA.mono hG28
 replace hB:=hB.mono hG28
 replace hR:=hR.mono hG28
 rw [← hM] at hCe hCl
 obtain ⟨Ae,ce,rfl,_⟩:=id hCe
 obtain ⟨Ac,cc,rfl⟩:=LstR.slice hCl
 refine Wp 9 [0] hs rfl<|Zy hs (Y_build zeroValue226 rfl PL226 rfl (cs:=[_,_,_]) rfl<|O_s (Sa hs zeroValue226 rfl fun b7 _ hs=>O_n (S_stA hs sizeOf226 rfl rfl (vs:=[_,_,_]) rfl (rfl) sM (cs':=[_,_,_]) rfl fun _ hs =>Wp 5 [0] hs rfl<|O_s (S_make (n:=R.length) (m:=R.length) hs underlying45 TI3 rfl rfl rfl oM oM oM fun b35 _ hs =>Wp 5 [0] hs rfl<|Zy hs (Y_idxN hB 0 underlying45 sizeOf3 rfl rfl rfl oM fun p37 hp37=>?_)))))
 obtain ⟨b0,hb0⟩:∃ x,x=B[0]'oM:=⟨_,rfl⟩
 rw [← hb0] at hp37
 have hb0R:b0<R.length:=hBR b0 (by rw [hb0];exact List.getElem_mem _)
 refine Zy hs (Yg rfl (hp37)<|O_s (S_lit hs underlying45 sizeOf3 zeroValue3 rfl rfl dC dC rfl (cs:=[_]) rfl rfl fun v4 _ hs _ =>Wp 9 [8,1,2,3,4,5,7,8,9,0] hs rfl ?_))
 have hs:=hs.f3.f4.f4.f3.f4
 refine Zl [1,2,3,4,5,7,8,9,41,42] (fun m E w=>∃ (k:Nat) (vo:Value) (G2:Ghost),k≤R.length∧m=R.length-k∧Nats G2 (.slice AB B.length cB) B∧Nats G2 (.slice AR R.length cR) R∧Nats G2 (.slice Ae M.cells.length ce) M.cells∧ClsL G2 (.slice Ac M.cls.length cc) M.cls∧E=⟨[],[(1,Vp b1),(2,Vp b2),(3,.slice AB B.length cB),(4,.slice AR R.length cR),(5,.slice Ae M.cells.length ce),(7,Vp b7),(8,Vs b35 R.length R.length),(9,vo),(41,Vi ((R.length:Nat):Int)),(42,Vi (k:Int))]⟩∧St ⟨w0,G,feet []⟩ G2 [.row 3 1 (Vs b35 R.length R.length) R.length ((List.replicate k (-1)++List.replicate (R.length-k) 0).map intV),.row 3 1 (vo) [b0].length ([b0].map natV),.blk b7 226 [.slice Ac M.cls.length cc,Vn,Vn],.blk b1 276 (tabC t.cell t.cells (.slice An t.next.length cn) (.slice Aa t.acc.length ca)),.blk b2 226 [Vn,Vn,Vn]] w) rfl (⟨0,_,_,by omega,rfl,hB,hR,hCe,hCl,rfl,by rw [List.replicate_zero,List.nil_append,Nat.sub_zero,List.map_replicate];exact hs⟩) fun m E w hI=>?_
 obtain ⟨k,vo,G2,hk,rfl,hB,hR,hCe,hCl,rfl,hs⟩:=hI
 have hN:=hN0.mono hs.le
 have hA:=hA0.mono hs.le
 refine Wt 2 [] hs rfl<|Zy hs (Yc rfl (fun h43=>?_) fun h43=>?_)
 ·
  refine Wp 14 [0,0] hs rfl<|Zy hs (Y_idxRow (k) underlying45 sizeOf3 rfl rfl rfl oM<|O_n (S_stRow hs sizeOf3 rfl rfl rfl oM fun _ hs =>Wp 2 [0] hs rfl<|Zy hs (Ya (s:=((k+1:Nat):Int)) rfl<|Wp 1 [] hs rfl<|Zx [1,2,3,4,5,7,8,9,41,42] rfl ⟨k+1,_,_,by omega,rfl,hB,hR,hCe,hCl,rfl,by rw [← fill_step oM,List.map_set];exact hs⟩)))
 refine Wp 4 [0] hs rfl<|Wu 4 [] hs rfl<|Zy hs (Y_idxN hB 0 underlying45 sizeOf3 rfl rfl rfl oM fun p51 hp51=>?_)
 rw [← hb0] at hp51
 refine Zy hs (Yg rfl (hp51)<|Zy hs (Y_idxRow (b0) underlying45 sizeOf3 rfl rfl rfl oM<|O_n (S_stRow hs sizeOf3 rfl rfl rfl oM fun _ hs =>Wp 6 [0,0] hs rfl ?_)))
 obtain rfl:k=R.length:=by omega
 rw [Nat.sub_self,List.replicate_zero,List.append_nil] at hs
 have hs:=hs.nilRow 4 1
 have hs:=hs.nilRow 45 1
 have hs:=hs.f6.f6.f3.f3.f6.f6.f6
 have hc0:CnOk R.length 0 ⟨(List.replicate R.length (-1)).set b0 0,[b0],[]⟩:=cn_init hb0R
 have hb0g:B.getD 0 0=b0:=by rw [getD_lt oM,hb0]
 rw [hb0g] at hcg
 rw [show ((List.replicate R.length (-1)).map intV).set b0 (Vi 0)=(((List.replicate R.length (-1)).set b0 0).map intV) by rw [List.map_set]] at hs
 refine Zl [1,2,3,4,5,7,8,9,11] (fun m E w=>∃ (f i:Nat) (pl:List Int) (od:List Nat) (nx:List (List Nat)) (ac:List Bool) (vs:List Value) (vo vn va:Value) (G2:Ghost),cnG t B R M.cells f i pl od nx ac=some (nx0,ac0)∧CnOk R.length 0 ⟨pl,od,[]⟩∧nx.length=i∧ac.length=i∧vs.length=i∧i≤od.length∧LRows G2 vs nx∧m=f∧Nats G2 (.slice AB B.length cB) B∧Nats G2 (.slice AR R.length cR) R∧Nats G2 (.slice Ae M.cells.length ce) M.cells∧ClsL G2 (.slice Ac M.cls.length cc) M.cls∧E=⟨[],[(1,Vp b1),(2,Vp b2),(3,.slice AB B.length cB),(4,.slice AR R.length cR),(5,.slice Ae M.cells.length ce),(7,Vp b7),(8,Vs b35 R.length R.length),(9,vo),(11,Vi (i:Int))]⟩∧St ⟨w0,G,feet []⟩ G2 [.row 3 1 (Vs b35 R.length R.length) R.length (pl.map intV),.row 3 1 (vo) od.length (od.map natV),.blk b7 226 [.slice Ac M.cls.length cc,vn,va],.row 45 1 (vn) nx.length vs,.row 4 1 (va) ac.length (ac.map boolV),.blk b1 276 (tabC t.cell t.cells (.slice An t.next.length cn) (.slice Aa t.acc.length ca)),.blk b2 226 [Vn,Vn,Vn]] w) rfl (⟨R.length+1,0,_,[b0],[],[],[],_,_,_,_,hcg,hc0,rfl,rfl,rfl,by simp,trivial,rfl,hB,hR,hCe,hCl,rfl,hs⟩) fun m E w hI=>?_
 obtain ⟨f,i,pl,od,nx,ac,vs,vo,vn,va,G2,hg,hcn,hnl,hacl,hvl,hil,hrs,rfl,hB,hR,hCe,hCl,rfl,hs⟩:=hI
 have hN:=hN0.mono hs.le
 have hA:=hA0.mono hs.le
 refine Wt 5 [] hs rfl<|Zy hs (Y_lenOwn 1 rfl underlying45 rfl hs<|Zy hs (Yc rfl (fun h57=>?_) fun h57=>?_))
 ·
  refine Wp 3 [0] hs rfl ?_
  obtain ⟨o,ho⟩:∃ o,o=od[i]'oM:=⟨_,rfl⟩
  have hoR:o<R.length:=hcn.lt o (by rw [ho];exact List.getElem_mem _)
  refine Wu 7 [] hs rfl<|Zy hs (Y_idxOwn (j:=((i:Nat):Int)) (i) 1 rfl underlying45 sizeOf3 rfl rfl rfl oM (u:=natV o) (by rw [ho];exact nat_row oM) hs fun p63 hp63 =>Zy hs (Y_ldOwn isAgg3 rfl hp63 ?_))
  obtain ⟨s,hse⟩:∃ s,s=R[o]'oM:=⟨_,rfl⟩
  refine Zy hs (Y_idxN hR o underlying45 sizeOf3 rfl rfl rfl oM fun p65 hp65=>?_)
  rw [← hse] at hp65
  have hsN:s<t.next.length:=hRN s Z31
  refine Zy hs (Yg rfl (hp65)<|Wp 6 [0] hs rfl<|O_s (S_make (n:=M.cells.length) (m:=M.cells.length) hs underlying45 TI3 rfl rfl rfl oM oM oM fun b69 _ hs =>Wp 9 [11,1,2,3,4,5,7,8,9,11,12,13,0] hs rfl ?_))
  have hs:=hs.f7.f7.f7.f7.f7.f7.f7.f7
  rw [rep_nat] at hs
  refine Zl [1,2,3,4,5,7,8,9,11,12,13,70,71,72] (fun m E w=>∃ (k:Nat) (st:Cn) (vo:Value) (G2:Ghost),k≤M.cells.length∧st=(M.cells.take k).foldl (cnP t B s) ⟨pl,od,[]⟩∧CnOk R.length k st∧i+1≤st.order.length∧LRows G2 vs nx∧m=M.cells.length-k∧Nats G2 (.slice AB B.length cB) B∧Nats G2 (.slice AR R.length cR) R∧Nats G2 (.slice Ae M.cells.length ce) M.cells∧ClsL G2 (.slice Ac M.cls.length cc) M.cls∧E=⟨[],[(1,Vp b1),(2,Vp b2),(3,.slice AB B.length cB),(4,.slice AR R.length cR),(5,.slice Ae M.cells.length ce),(7,Vp b7),(8,Vs b35 R.length R.length),(9,vo),(11,Vi (i:Int)),(12,Vi (s:Int)),(13,Vs b69 M.cells.length M.cells.length),(70,.slice Ae M.cells.length ce),(71,Vi ((M.cells.length:Nat):Int)),(72,Vi (k:Int))]⟩∧St ⟨w0,G,feet []⟩ G2 [.row 3 1 (Vs b69 M.cells.length M.cells.length) M.cells.length ((st.row++List.replicate (M.cells.length-k) 0).map natV),.row 3 1 (Vs b35 R.length R.length) R.length (st.place.map intV),.row 3 1 (vo) st.order.length (st.order.map natV),.blk b7 226 [.slice Ac M.cls.length cc,vn,va],.row 45 1 (vn) nx.length vs,.row 4 1 (va) ac.length (ac.map boolV),.blk b1 276 (tabC t.cell t.cells (.slice An t.next.length cn) (.slice Aa t.acc.length ca)),.blk b2 226 [Vn,Vn,Vn]] w) rfl (⟨0,⟨pl,od,[]⟩,_,_,by omega,rfl,hcn,(show i+1≤od.length from by omega),hrs,rfl,hB,hR,hCe,hCl,rfl,hs⟩) fun m E w hI=>?_
  obtain ⟨k,st,vo,G2,hk,hst,hcn,hil,hrs,rfl,hB,hR,hCe,hCl,rfl,hs⟩:=hI
  have hN:=hN0.mono hs.le
  have hA:=hA0.mono hs.le
  refine Wt 2 [] hs rfl<|Zy hs (Yc rfl (fun h73=>?_) fun h73=>?_)
  ·
   refine Wp 9 [0] hs rfl<|Zy hs (Y_idxN hCe k underlying45 sizeOf3 rfl rfl rfl oM fun p75 hp75=>?_)
   obtain ⟨c,hce⟩:∃ c,c=M.cells[k]'oM:=⟨_,rfl⟩
   rw [← hce] at hp75
   have hcc:c<t.cells:=hmc c (by rw [hce];exact List.getElem_mem _)
   refine Zy hs (Yg rfl (hp75)<|Wp 7 [0,257] hs rfl<|Zy hs (Y_ld 6 isAgg36 rfl rfl (tabC_2 hcl)<|Wp 1 [] hs rfl<|Zy hs (Y_idxS hN s underlying36 sizeOf45 rfl rfl rfl oM fun p81 c81 hp81 hc81 hR81=>?_)))
   obtain ⟨rr,herr⟩:∃ r,r=t.next[s]'oM:=⟨_,rfl⟩
   rw [← herr] at hR81
   have hlrr:rr.length=t.cells∧∀ x∈rr,x<t.next.length:=hrows rr Z29
   obtain ⟨u81,rfl,hrr⟩:=hR81
   obtain ⟨A81,c81,rfl,_⟩:=id hrr
   refine Zy hs (Yg rfl (hp81 0 (.slice A81 rr.length c81) rfl)<|Wp 1 [] hs rfl<|Zy hs (Y_idxN hrr c underlying45 sizeOf3 rfl rfl rfl oM fun p84 hp84=>?_))
   obtain ⟨y,hye⟩:∃ y,y=rr[c]'oM:=⟨_,rfl⟩
   rw [← hye] at hp84
   have hyN:y<t.next.length:=hlrr.2 y Z34
   refine Zy hs (Yg rfl (hp84)<|Zy hs (Y_idxN hB y underlying45 sizeOf3 rfl rfl rfl oM fun p86 hp86=>?_))
   obtain ⟨x,hxe⟩:∃ x,x=B[y]'oM:=⟨_,rfl⟩
   rw [← hxe] at hp86
   have hxR:x<R.length:=hBR x Z33
   refine Zy hs (Yg rfl (hp86)<|Wp 7 [16,1,2,3,4,5,7,8,9,11,12,13,14,16,70,71,72] hs rfl<|Zy hs (Y_idxRow (x) underlying45 sizeOf3 rfl rfl rfl oM ?_))
   obtain ⟨z,hz⟩:∃ z,z=st.place[x]'(by rw [hcn.pl];exact hxR):=⟨_,rfl⟩
   refine Zy hs (Y_ldRow 1 rfl isAgg3 rfl (show (st.place.map intV)[x]?=some (intV z) from by rw [hz];exact int_row (by rw [hcn.pl];exact hxR))<|Zy hs (Yc rfl (fun h92=>?_) fun h92=>?_))
   ·
    have hz0:st.place.getD x 0<0:=by rw [getD_lt (by rw [hcn.pl];exact hxR),← hz];exact h92
    have hfr:=hcn.fresh (x:=x) (by rw [hcn.pl];exact hxR) hz0
    refine Wp 7 [0] hs rfl<|Zy hs (Y_lenOwn 2 rfl underlying45 rfl hs<|Zy hs (Y_idxRow (x) underlying45 sizeOf3 rfl rfl rfl oM<|O_n (S_stRow hs.f1 sizeOf3 rfl rfl rfl oM fun _ hs =>Wp 4 [16,1,2,3,4,5,7,8,9,11,12,13,14,16,70,71,72] hs rfl<|O_s (S_lit hs underlying45 sizeOf3 zeroValue3 rfl rfl dC dC rfl (cs:=[_]) rfl rfl fun v5 _ hs _=>?_))))
    obtain ⟨_,hG100,hl100,hs⟩:=hs.fixRow noM
    replace hB:=hB.mono hG100
    replace hR:=hR.mono hG100
    replace hCe:=hCe.mono hG100
    replace hCl:=hCl.mono hG100
    replace hrs:=hrs.mono hG100
    refine O_s (S_append hs.f2 underlying45 TI3 rfl dC rfl rfl (hl100) (one1 rfl) (by have:=hfr;omega) (by have:=hfr;omega) fun v6 _ hs =>Wp 2 [0] hs rfl ?_)
    have hs:=hs.f7.f7.f7.f7.f7.f5.f6.f7
    replace hs:=hs.weak hs.le (Ghost.le.refl _) (List.sublist_append_left [_,_,_,_,_,_,_,_] _)
    obtain ⟨st2,hs2e⟩:∃ s,s=({ st with place:=st.place.set x (st.order.length:Int),order:=st.order++[x] }:Cn):=⟨_,rfl⟩
    have hs2f:st2=if st.place.getD x 0<0 then { st with place:=st.place.set x (st.order.length:Int),order:=st.order++[x] } else st:=by rw [if_pos hz0];exact hs2e
    obtain ⟨hc2n,hz2,hz2l⟩:=cn_step hcn hxR hs2f
    have hi2l:i+1≤st2.order.length:=by rw [hs2e];first|exact hil|(simp only [List.length_append,List.length_singleton];omega)
    replace hs:=castH (H':=[.row 3 1 (Vs b69 M.cells.length M.cells.length) M.cells.length ((st2.row++List.replicate (M.cells.length-k) 0).map natV),.row 3 1 (Vs b35 R.length R.length) R.length (st2.place.map intV),.row 3 1 (v6) st2.order.length (st2.order.map natV),.blk b7 226 [.slice Ac M.cls.length cc,vn,va],.row 45 1 (vn) nx.length vs,.row 4 1 (va) ac.length (ac.map boolV),.blk b1 276 (tabC t.cell t.cells (.slice An t.next.length cn) (.slice Aa t.acc.length ca)),.blk b2 226 [Vn,Vn,Vn]]) hs (by rw [hs2e];simp [natV,intV,List.map_set])
    have hx2:x<st2.place.length:=by rw [hc2n.pl];exact hxR
    obtain ⟨ix,hix⟩:=Int.eq_ofNat_of_zero_le hz2
    have hr2l:=hc2n.rw
    have hxg:x=B.getD (t.to s c) 0:=by rw [to_at hsN (by rw [← herr];omega)];simp only [← herr,← hye];rw [getD_lt oM,← hxe]
    have hstp:cnP t B s st c={ st2 with row:=st2.row++[ix] }:=by rw [cnP_eq hxg];simp only [← hs2f,hix];rfl
    rw [getD_lt hx2] at hix
    refine Wu 5 [] hs rfl<|Zy hs (Y_idxRow (x) underlying45 sizeOf3 rfl rfl rfl oM<|Zy hs (Y_ldRow 1 rfl isAgg3 rfl ((int_row hx2).trans (by rw [hix]))<|Zy hs (Y_idxRow (k) underlying45 sizeOf3 rfl rfl rfl oM<|O_n (S_stRow hs sizeOf3 rfl rfl rfl oM fun _ hs =>Wp 2 [14,1,2,3,4,5,7,8,9,11,12,13,70,71,72] hs rfl<|Zy hs (Ya (s:=((k+1:Nat):Int)) rfl<|Wp 1 [] hs rfl ?_)))))
    have hs:=hs.f7.f7.f7.f7.f7.f7.f7.f7
    refine Zx [1,2,3,4,5,7,8,9,11,12,13,70,71,72] rfl ⟨k+1,{ st2 with row:=st2.row++[ix] },_,_,by omega,by rw [take_foldl_succ _ _ _ _ oM,← hce,← hst,hstp],hc2n.snoc,hi2l,hrs,rfl,hB,hR,hCe,hCl,rfl,castH hs (by rw [← fillN_step hr2l oM];simp [natV,List.map_set])⟩
   have hz0:¬ st.place.getD x 0<0:=by rw [getD_lt (by rw [hcn.pl];exact hxR),← hz];exact h92
   refine Wp 3 [0] hs rfl ?_
   have hs:=hs.f7.f7.f7.f7.f7.f7.f7.f7
   replace hs:=hs.weak hs.le (Ghost.le.refl _) (List.sublist_append_left [_,_,_,_,_,_,_,_] _)
   obtain ⟨st2,hs2e⟩:∃ s,s=st:=⟨_,rfl⟩
   have hs2f:st2=if st.place.getD x 0<0 then { st with place:=st.place.set x (st.order.length:Int),order:=st.order++[x] } else st:=by rw [if_neg hz0];exact hs2e
   obtain ⟨hc2n,hz2,hz2l⟩:=cn_step hcn hxR hs2f
   have hi2l:i+1≤st2.order.length:=by rw [hs2e];first|exact hil|(simp only [List.length_append,List.length_singleton];omega)
   replace hs:=castH (H':=[.row 3 1 (Vs b69 M.cells.length M.cells.length) M.cells.length ((st2.row++List.replicate (M.cells.length-k) 0).map natV),.row 3 1 (Vs b35 R.length R.length) R.length (st2.place.map intV),.row 3 1 (vo) st2.order.length (st2.order.map natV),.blk b7 226 [.slice Ac M.cls.length cc,vn,va],.row 45 1 (vn) nx.length vs,.row 4 1 (va) ac.length (ac.map boolV),.blk b1 276 (tabC t.cell t.cells (.slice An t.next.length cn) (.slice Aa t.acc.length ca)),.blk b2 226 [Vn,Vn,Vn]]) hs (by rw [hs2e])
   have hx2:x<st2.place.length:=by rw [hc2n.pl];exact hxR
   obtain ⟨ix,hix⟩:=Int.eq_ofNat_of_zero_le hz2
   have hr2l:=hc2n.rw
   have hxg:x=B.getD (t.to s c) 0:=by rw [to_at hsN (by rw [← herr];omega)];simp only [← herr,← hye];rw [getD_lt oM,← hxe]
   have hstp:cnP t B s st c={ st2 with row:=st2.row++[ix] }:=by rw [cnP_eq hxg];simp only [← hs2f,hix];rfl
   rw [getD_lt hx2] at hix
   refine Wu 5 [] hs rfl<|Zy hs (Y_idxRow (x) underlying45 sizeOf3 rfl rfl rfl oM<|Zy hs (Y_ldRow 1 rfl isAgg3 rfl ((int_row hx2).trans (by rw [hix]))<|Zy hs (Y_idxRow (k) underlying45 sizeOf3 rfl rfl rfl oM<|O_n (S_stRow hs sizeOf3 rfl rfl rfl oM fun _ hs =>Wp 2 [14,1,2,3,4,5,7,8,9,11,12,13,70,71,72] hs rfl<|Zy hs (Ya (s:=((k+1:Nat):Int)) rfl<|Wp 1 [] hs rfl ?_)))))
   have hs:=hs.f7.f7.f7.f7.f7.f7.f7.f7
   refine Zx [1,2,3,4,5,7,8,9,11,12,13,70,71,72] rfl ⟨k+1,{ st2 with row:=st2.row++[ix] },_,_,by omega,by rw [take_foldl_succ _ _ _ _ oM,← hce,← hst,hstp],hc2n.snoc,hi2l,hrs,rfl,hB,hR,hCe,hCl,rfl,castH hs (by rw [← fillN_step hr2l oM];simp [natV,List.map_set])⟩
  refine Wp 4 [0] hs rfl ?_
  obtain rfl:k=M.cells.length:=by omega
  rw [Nat.sub_self,List.replicate_zero,List.append_nil] at hs
  rw [List.take_length] at hst
  obtain ⟨_,hG_hrow,hrow,hs⟩:=hs.fixRow noM
  replace hA:=hA.mono hG_hrow
  replace hB:=hB.mono hG_hrow
  replace hR:=hR.mono hG_hrow
  replace hCe:=hCe.mono hG_hrow
  replace hCl:=hCl.mono hG_hrow
  replace hrs:=hrs.mono hG_hrow
  have hrl:=hcn.rw
  have hol:st.order.length≤R.length:=hcn.le
  replace hrow:Nats _ (Vs b69 M.cells.length M.cells.length) st.row:=(show Nats _ _ _ from by unfold Nats;rw [hrl];exact hrow)
  refine Wu 5 [1,2] hs rfl<|O_s (S_lit hs underlying36 sizeOf45 zeroValue45 rfl rfl dC dC rfl (cs:=[_]) rfl rfl fun v7 _ hs _=>?_)
  obtain ⟨_,hG113,hl113,hs⟩:=hs.fixRow noM
  replace hA:=hA.mono hG113
  replace hB:=hB.mono hG113
  replace hR:=hR.mono hG113
  replace hCe:=hCe.mono hG113
  replace hCl:=hCl.mono hG113
  replace hrs:=hrs.mono hG113
  replace hrow:=hrow.mono hG113
  refine O_s (S_append hs.f3 underlying36 TI45 rfl dC rfl rfl (hl113) (one1 rfl) oM oM fun v8 _ hs =>Wp 1 [1] hs rfl<|O_n (Sd hs.f3 rfl (hs.f3.rowOne 1 rfl) fun _ hs=>Wp 1 [0] hs rfl<|T_drawS [0,1,2,3,4,5,6,7] hs kR ?_))
  replace hs:=hs.drew
  refine Xr [0,1,2] [2,0,258] hs rfl<|Xt 3 hs rfl (Y_ld 5 isAgg94 rfl rfl (tabC_3 hcl)<|Xr [4] [] hs rfl<|Xt 5 hs rfl (Y_idx1 s underlying94 sizeOf4 hA rfl rfl rfl (bool_row oM) fun p121 hp121 =>Xt 6 hs rfl (Yg rfl (hp121) ?_)))
  have hle:=hs.le
  refine Xo 7 rfl (S_lit hs underlying94 sizeOf4 zeroValue4 rfl rfl dC dC rfl (cs:=[_]) rfl rfl fun v9 _ hs _=>?_)
  obtain ⟨_,hG123,hl123,hs⟩:=hs.fixRow noM
  replace hB:=hB.mono hG123
  replace hR:=hR.mono hG123
  replace hCe:=hCe.mono hG123
  replace hCl:=hCl.mono hG123
  replace hrs:=hrs.mono hG123
  replace hrow:=hrow.mono hG123
  refine A_moreS hs hle hG123 (List.Sublist.refl _)<|Xa 8 rfl (S_append hs.f4 underlying94 TI4 rfl dC rfl rfl (hl123) (one1 rfl) oM oM fun v10 _ hs =>Xa 9 rfl (S_y hs rfl (Yf 2 rfl<|Xn 10 rfl (Sd hs.f1 rfl (hs.f1.rowOne 1 rfl) fun _ hs=>Xe (Zk [1,2,3,4,5,7,8,9,11] rfl<|Wu 2 [] hs rfl<|Zy hs (Ya (s:=((i+1:Nat):Int)) rfl<|Wp 1 [] hs rfl ?_))))))
  have hs:=hs.f6.f6.f3.f4.f4.f6.f6
  have hfp:=cnG_pos hg
  obtain ⟨f1,rfl⟩:∃ g,m=g+1:=⟨m-1,by omega⟩
  have hgo:=cnG_go (s:=s) (show i<od.length by omega) (by rw [getD_lt (show i<od.length by omega),← ho,getD_lt hoR,hse]) hst hg
  rw [getD_lt (show s<t.acc.length by omega)] at hgo
  refine Zx [1,2,3,4,5,7,8,9,11] rfl ⟨f1,i+1,st.place,st.order,_,_,_,vo,v8,v10,_,hgo,⟨hcn.pl,hcn.od,hcn.lt,hcn.rg,rfl⟩,by simp [hnl],by simp [hacl],by simp [hvl],hil,LRows.snoc hrs hrow,rfl,hB,hR,hCe,hCl,rfl,castH (hs.weak hs.le (Ghost.le.refl _) (List.sublist_append_left [_,_,_,_,_,_,_] _)) (by simp [boolV])⟩
 refine Wp 3 [0] hs rfl ?_
 have hfe:=cnG_end oM hg
 rw [Prod.mk.injEq] at hfe
 obtain ⟨rfl,rfl⟩:=hfe
 have hs:=hs.f3
 obtain ⟨_,hG_hfn,hfn,hs⟩:=hs.fixRow noM
 replace hCl:=hCl.mono hG_hfn
 replace hrs:=hrs.mono hG_hfn
 have hs:=hs.f3
 obtain ⟨_,hG_hfa,hfa,hs⟩:=hs.fixRow noM
 replace hCl:=hCl.mono hG_hfa
 replace hrs:=hrs.mono hG_hfa
 replace hfn:=hfn.mono hG_hfa
 obtain ⟨Fn,fn,rfl,_⟩:=id hfn
 obtain ⟨Fa,fa,rfl,_⟩:=id hfa
 refine Wu 3 [2] hs rfl<|O_n (S_stA hs.f4 sizeOf226 rfl rfl (vs:=[_,_,_]) rfl (rfl) sM (cs':=[_,_,_]) rfl fun _ hs =>Wp 1 [0] hs rfl<|T_ret<|Zz results236 (Rb 0 hs rfl rF) ?_)
 exact ⟨_,[],hs.done,rfl,_,_,_,rfl,hCl,LRows.fin hfn rfl hrs,hfa⟩
def celS (k:Nat) (bs:List UInt8) (a:List Nat):List Nat:=bs.foldl (fun a b=>a.set b.toNat k) a
theorem celS_len (k:Nat):∀ (bs:List UInt8) (a:List Nat),(celS k bs a).length=a.length:=by
  intro bs
  induction bs with
  | nil=>intro a;rfl
  | cons b bs ih=>intro a;show (celS k bs _).length=_;rw [ih,List.length_set]
theorem celS_snoc (k:Nat) (bs:List UInt8) (a:List Nat) (j:Nat) (h:j<bs.length):celS k (bs.take (j+1)) a=(celS k (bs.take j) a).set bs[j].toNat k:=by
  unfold celS;rw [foldl_take_succ _ _ bs j h]
def celG (l:List (List Nat)) (k:Nat):List Nat:=((l.zipIdx).take k).foldl (fun cell ci=>celS ci.2 (bytesF ci.1) cell) (List.replicate 256 0)
theorem celG_succ {l:List (List Nat)} {k:Nat} (h:k<l.length):celG l (k+1)=celS k (bytesF l[k]) (celG l k):=by
  unfold celG
  rw [foldl_take_succ _ _ _ k (by rw [List.length_zipIdx];exact h),List.getElem_zipIdx];simp only [Nat.zero_add]
theorem celG_len (l:List (List Nat)) (k:Nat):(celG l k).length=256:=by
  unfold celG
  have:∀ (xs:List (List Nat×Nat)) (a:List Nat),(xs.foldl (fun cell ci=>celS ci.2 (bytesF ci.1) cell) a).length=a.length:=by
    intro xs
    induction xs with
    | nil=>intro a;rfl
    | cons x xs ih=>intro a;rw [List.foldl_cons,ih,celS_len]
  rw [this,List.length_replicate]
theorem tabF_eq (d:Dfa):tabF d=⟨celG d.cls d.cls.length,d.cls.length,d.next,d.acc⟩:=by
  unfold tabF celG
  rw [List.take_of_length_le (by rw [List.length_zipIdx];exact Nat.le_refl _)];rfl
theorem tabC_cset {cell:List Nat} {n k x:Nat} {vn va:Value} (h:cell.length=256) (hk:k<256):(tabC cell n vn va).set k (i64n x)=tabC (cell.set k x) n vn va:=by
  unfold tabC;rw [List.set_append_left _ _ Z40,List.map_set]
theorem tabC_one {cell:List Nat} {n:Nat} {vn va:Value} (h1:vn.oneCell'=true) (h2:va.oneCell'=true):((tabC cell n vn va).all fun v=>v.oneCell')=true:=by
  unfold tabC
  rw [List.all_append,Bool.and_eq_true]
  exact ⟨List.all_eq_true.2 fun v hv=>by obtain ⟨x,_,rfl⟩:=List.mem_map.1 hv;rfl,by simp only [List.all_cons,List.all_nil,h1,h2,Bool.and_true];rfl⟩
theorem tabof_ok {G:Ghost} {v:Value} {d:Dfa} (hd:DfR G v d) (hcl:d.cls.length≤256) (hT:Tab G) :
  FnOk prog 241 [v] G [] fun r G' H'=>H'=[]∧TbR G' r (tabF d):=by
 obtain ⟨vc,vn,va,rfl,hC,hN,hA⟩:=hd
 obtain ⟨Ac,cc,rfl⟩:=LstR.slice hC
 obtain ⟨An,cn,rfl⟩:=LstR.slice hN
 obtain ⟨Aa,ca,rfl,_⟩:=id hA
 refine FnOk.of_T [(0,_)] func241 rfl ntmps241 sM rfl fun w0 hs=>?_
 have hC0:=hC
 have hN0:=hN
 have hA0:=hA
 have hT0:=hT
 refine Wt 2 [] hs rfl<|O_s (Sb hs rfl fun b1 _ hs=>O_s (S_alloc hs zeroValue276 (cs:=(tabC (List.replicate 256 0) 0 (Vn) (Vn))) rfl fun b2 _ hs =>Wp 10 [0,0,1,1,1,2,1] hs rfl<|Zy hs (Y_build zeroValue276 rfl (pl:=[(0,256),(256,1),(257,1),(258,1)]) kR rfl (cs:=(tabC (List.replicate 256 0) d.cls.length (.slice An d.next.length cn) (.slice Aa d.acc.length ca))) kR<|O_s (S_alloc hs zeroValue276 (cs:=(tabC (List.replicate 256 0) 0 (Vn) (Vn))) rfl fun b3 _ hs =>O_n (Sw hs rfl Z7 Z7 (tabC_one rfl rfl) fun _ hs=>Wp 9 [0,0,2,0] hs rfl ?_)))))
 have hs:=hs.f1.f2.f2
 refine Zl [2,3,17,18,19] (fun m E w=>∃ (k:Nat) (G2:Ghost),k≤d.cls.length∧m=d.cls.length-k∧E=⟨[],[(2,Vp b2),(3,Vp b3),(17,.slice Ac d.cls.length cc),(18,Vi ((d.cls.length:Nat):Int)),(19,Vi (k:Int))]⟩∧St ⟨w0,G,feet []⟩ G2 [.blk b3 276 (tabC (celG d.cls k) d.cls.length (.slice An d.next.length cn) (.slice Aa d.acc.length ca)),.blk b1 226 [.slice Ac d.cls.length cc,.slice An d.next.length cn,.slice Aa d.acc.length ca],.blk b2 276 (tabC (List.replicate 256 0) 0 (Vn) (Vn))] w) rfl (⟨0,_,by omega,rfl,rfl,hs⟩) fun m E w hI=>?_
 obtain ⟨k,G2,hk,rfl,rfl,hs⟩:=hI
 have hC:=hC0.mono hs.le
 have hN:=hN0.mono hs.le
 have hA:=hA0.mono hs.le
 have hT:=hT0.mono hs.le
 refine Wt 2 [] hs rfl<|Zy hs (Yc rfl (fun h20=>?_) fun h20=>?_)
 ·
  refine Wp 9 [0] hs rfl<|Zy hs (Y_idxS hC k underlying224 sizeOf104 rfl rfl rfl oM fun p22 c22 hp22 hc22 hR22=>?_)
  obtain ⟨rfl,h4,h64⟩:=hR22
  refine Zy hs (Y_ldAG (vs:=List.map u64V (d.cls[k]'oM)) isAgg104 sizeOf104 rfl hp22 hc22<|O_s (S_alloc hs zeroValue104 (cs:=(List.map u64V [0,0,0,0])) rfl fun b5 _ hs =>Wp 1 [] hs rfl<|O_n (Sw hs rfl (vs:=(List.map u64V (d.cls[k]'oM))) Z7 Z7 (u64_all _) fun _ hs=>Wp 3 [0] hs rfl<|Zy hs (Yk 0 rfl Z7<|O_s (Sc (bytes_ok h4 h64 hT) hs rfl fun v1 G' H' _ hR hG25 hs=>?_)))))
  obtain ⟨rfl,hbb⟩:=hR
  replace hs:=hs.n rfl
  replace hC:=hC.mono hG25
  replace hN:=hN.mono hG25
  replace hA:=hA.mono hG25
  replace hT:=hT.mono hG25
  obtain ⟨A25,c25,rfl,_⟩:=id hbb
  have hb256:=bytesF_len h4 h64
  refine Wp 3 [0] hs rfl ?_
  have hs:=hs.f3.f3.f3
  refine Zl [2,3,4,17,18,19,25,26,27] (fun m E w=>∃ (j:Nat) (G2:Ghost),j≤(bytesF (d.cls[k]'oM)).length∧Bytes G2 (.slice A25 (bytesF (d.cls[k]'oM)).length c25) (bytesF (d.cls[k]'oM))∧m=(bytesF (d.cls[k]'oM)).length-j∧E=⟨[],[(2,Vp b2),(3,Vp b3),(4,Vi (k:Int)),(17,.slice Ac d.cls.length cc),(18,Vi ((d.cls.length:Nat):Int)),(19,Vi (k:Int)),(25,(.slice A25 (bytesF (d.cls[k]'oM)).length c25)),(26,Vi (((bytesF (d.cls[k]'oM)).length:Nat):Int)),(27,Vi (j:Int))]⟩∧St ⟨w0,G,feet []⟩ G2 [.blk b3 276 (tabC (celS k ((bytesF (d.cls[k]'oM)).take j) (celG d.cls k)) d.cls.length (.slice An d.next.length cn) (.slice Aa d.acc.length ca)),.blk b1 226 [.slice Ac d.cls.length cc,.slice An d.next.length cn,.slice Aa d.acc.length ca],.blk b2 276 (tabC (List.replicate 256 0) 0 (Vn) (Vn))] w) rfl (⟨0,_,by omega,hbb,rfl,rfl,hs.weak hs.le (Ghost.le.refl _) (List.sublist_append_left [_,_,_] _)⟩) fun m E w hI=>?_
  obtain ⟨j,G2,hj,hbb,rfl,rfl,hs⟩:=hI
  have hC:=hC0.mono hs.le
  have hN:=hN0.mono hs.le
  have hA:=hA0.mono hs.le
  have hT:=hT0.mono hs.le
  refine Wt 2 [] hs rfl<|Zy hs (Yc rfl (fun h28=>?_) fun h28=>?_)
  ·
   refine Wp 8 [0] hs rfl<|Zy hs (Y_idxB hbb j underlying99 sizeOf5 rfl rfl rfl oM fun p29 hp29 =>Zy hs (Yg rfl (hp29)<|Wp 6 [0,0] hs rfl<|Zy hs (Y_idxArr' ((bytesF (d.cls[k]'oM))[j].toNat) underlying274 sizeOf3 rfl rfl rfl (by have:=(bytesF (d.cls[k]'oM))[j].toNat_lt;omega)<|O_n (S_st hs sizeOf3 rfl rfl rfl (by rw [tabC_len (by rw [celS_len];exact celG_len _ _)];have:=(bytesF (d.cls[k]'oM))[j].toNat_lt;omega) (cs':=(tabC (celS k ((bytesF (d.cls[k]'oM)).take (j+1)) (celG d.cls k)) d.cls.length (.slice An d.next.length cn) (.slice Aa d.acc.length ca))) (by rw [celS_snoc _ _ _ j oM];exact tabC_cset (by rw [celS_len];exact celG_len _ _) (by have:=(bytesF (d.cls[k]'oM))[j].toNat_lt;omega)) fun _ hs =>Wp 2 [0] hs rfl<|Zy hs (Ya (s:=((j+1:Nat):Int)) rfl<|Wp 1 [] hs rfl ?_)))))
   have hs:=hs.f2.f2.f2
   refine Zx [2,3,4,17,18,19,25,26,27] rfl ⟨j+1,_,by omega,hbb,rfl,rfl,hs⟩
  refine Wp 4 [0] hs rfl ?_
  refine Zr<|Zy hs (Ya (s:=((k+1:Nat):Int)) rfl<|Wp 1 [] hs rfl ?_)
  have hs:=hs.f2.f2.f2
  refine Zx [2,3,17,18,19] rfl ⟨k+1,_,by omega,rfl,rfl,by rw [List.take_of_length_le oM,← celG_succ oM] at hs;exact hs.weak hs.le (Ghost.le.refl _) (List.sublist_append_left [_,_,_] _)⟩
 refine Wp 4 [0] hs rfl<|Wu 2 [] hs rfl<|Zy hs (Yk 0 rfl (tabC_len (celG_len _ _))<|O_n (Sw hs.f2 rfl Z7 Z7 (tabC_one rfl rfl) fun _ hs=>Wp 1 [0] hs rfl<|T_ret<|Zz results241 (Rb 0 hs rfl Z7) ?_))
 obtain rfl:k=d.cls.length:=by omega
 exact ⟨_,[],hs.done,rfl,by rw [tabF_eq];exact ⟨_,_,rfl,celG_len _ _,hN,hA⟩⟩
theorem limited_ok {G:Ghost} {v:Value} {t:Tb} {D:Dfa} (ht:TbR G v t) (hok:t.ok) (hD:canonF t=some D) (hn:D.next.length≤64) :
  FnOk prog 249 [v] G [] fun r G' H'=>H'=[]∧∃ vd,r=.tuple #[vd,Vi 0]∧DfR G' vd D:=by
 obtain ⟨un,ua,rfl,hcl,hN,hA⟩:=ht
 obtain ⟨An,cn,rfl⟩:=LstR.slice hN
 obtain ⟨Aa,ca,rfl,_⟩:=id hA
 refine FnOk.of_T [(0,_)] func249 rfl ntmps249 sM rfl fun w0 hs=>?_
 have hN0:=hN
 have hA0:=hA
 refine Wt 2 [] hs rfl<|O_s (S_box hs rfl (cs:=_) rfl fun b1 _ hs =>O_s (Sa hs zeroValue226 rfl fun b2 _ hs=>Wp 4 [0] hs rfl<|Zy hs (Yk 1 rfl (tabC_len hcl)<|O_s (Sc (canon_ok ⟨_,_,rfl,hcl,hN,hA⟩ hok hD) hs rfl fun v1 G' H' _ hR hG6 hs=>?_))))
 obtain ⟨rfl,hd⟩:=hR
 replace hs:=hs.n rfl
 obtain ⟨dc,dn,da,rfl,hdC,hdN,hdA⟩:=hd
 obtain ⟨Cd,cd,rfl⟩:=LstR.slice hdC
 obtain ⟨Nd,nd,rfl⟩:=LstR.slice hdN
 obtain ⟨Ad,ad,rfl,_⟩:=id hdA
 refine O_s (Sa hs zeroValue226 rfl fun b4 _ hs=>O_n (Sg hs rfl (rfl) fun _ hs=>Wp 7 [0,1,0] hs rfl<|Zy hs (Y_cmpF rfl rfl rfl oM<|Wp 6 [0,0] hs rfl<|O_n (Sg hs.f1 rfl (rfl) fun _ hs=>Wp 2 [0] hs rfl<|T_ret ?_))))
 have hr:=hs
 refine Rt_fin (vs:=[_,_]) results249 rfl ⟨ResOk_blk 0 hr isAgg226 sizeOf226 rfl (cs:=[_,_,_]) rfl rfl,rfl,trivial⟩ ?_
 try dsimp only [tup]
 exact ⟨_,[],hs.done,rfl,_,rfl,_,_,_,rfl,hdC,hdN,hdA⟩
def someK (t:Tb) (s k:Nat):Bool:=(t.acc.zipIdx.drop k).any fun p=>p.1 && decide (and64 (s / 2 ^ p.2) 1=1)
theorem someK_step {t:Tb} {s k:Nat} (h:k<t.acc.length):someK t s k=(((t.acc[k]'h) && decide (and64 (s / 2 ^ k) 1=1)) || someK t s (k+1)):=by
  unfold someK
  rw [List.drop_eq_getElem_cons (by rw [List.length_zipIdx];exact h),List.any_cons,List.getElem_zipIdx]
  simp only [Nat.zero_add]
theorem someK_0 {t:Tb} {s:Nat}:someF t s=someK t s 0:=rfl
theorem someK_end {t:Tb} {s:Nat}:someK t s t.acc.length=false:=by
  unfold someK;rw [List.drop_eq_nil_of_le (by rw [List.length_zipIdx];exact Nat.le_refl _)];rfl
theorem some_ok {G:Ghost} {v:Value} {t:Tb} {s:Nat} (ht:TbR G v t) (h64:t.acc.length≤64) :
  FnOk prog 248 [v,.agg #[u64V s]] G [] fun r _ H'=>H'=[]∧r=.bool (someF t s):=by
 obtain ⟨un,ua,rfl,hcl,hN,hA⟩:=ht
 obtain ⟨An,cn,rfl⟩:=LstR.slice hN
 obtain ⟨Aa,ca,rfl,_⟩:=id hA
 refine FnOk.of_T [(0,_),(1,_)] func248 rfl ntmps248 sM rfl fun w0 hs=>?_
 have hA0:=hA
 refine Wt 2 [] hs rfl<|O_s (S_box hs rfl (cs:=_) rfl fun b2 _ hs =>O_s (Sb hs rfl fun b3 _ hs=>Wp 6 [0,258] hs rfl<|Zy hs (Y_ld 1 isAgg94 rfl rfl (tabC_3 hcl)<|Wp 3 [0] hs rfl ?_)))
 have hs:=hs.f1.f1
 refine Zl [3,8,9,10] (fun m E w=>∃ (k:Nat) (G2:Ghost),k≤t.acc.length∧someF t s=someK t s k∧m=t.acc.length-k∧E=⟨[],[(3,Vp b3),(8,.slice Aa t.acc.length ca),(9,Vi ((t.acc.length:Nat):Int)),(10,Vi (k:Int))]⟩∧St ⟨w0,G,feet []⟩ G2 [.blk b3 284 [u64V s],.blk b2 276 (tabC t.cell t.cells (.slice An t.next.length cn) (.slice Aa t.acc.length ca))] w) rfl (⟨0,_,by omega,someK_0,rfl,rfl,hs⟩) fun m E w hI=>?_
 obtain ⟨k,G2,hk,hso,rfl,rfl,hs⟩:=hI
 have hA:=hA0.mono hs.le
 refine Wt 2 [] hs rfl<|Zy hs (Yc rfl (fun h11=>?_) fun h11=>?_)
 ·
  refine Wp 9 [0] hs rfl<|Zy hs (Y_idx1 k underlying94 sizeOf4 hA rfl rfl rfl (bool_row oM) fun p13 hp13=>?_)
  obtain ⟨q,hq⟩:∃ q,q=t.acc[k]'oM:=⟨_,rfl⟩
  rw [← hq] at hp13
  obtain ⟨w,hw⟩:∃ w,w=decide (and64 (s / 2 ^ k) 1=1):=⟨_,rfl⟩
  refine Zy hs (Yg rfl (hp13)<|Wp 7 [0] hs rfl ?_)
  cases q
  ·
   refine Wp 11 [0] hs rfl<|Zy hs (Ya (s:=((k+1:Nat):Int)) rfl<|Wp 1 [] hs rfl<|Zx [3,8,9,10] rfl ⟨k+1,_,by omega,by rw [hso,someK_step oM,← hq];rfl,rfl,rfl,hs⟩)
  refine Zg hs rfl (Y_idxArr 0 underlying284 sizeOf102 rfl rfl rfl dC (m:=0) rfl<|Wp 2 [0] hs rfl<|Zg hs rfl (Y_shr64 k oM rfl rfl<|Zg hs rfl (Y_and64 (b:=1) rfl rfl<|Zg hs rfl (Y_cmpB (t:=w) rfl rfl rfl (by rw [hw,decide_eq_true_iff];show _=_↔_;omega)<|Wp 2 [0] hs rfl<|T_condS rfl (fun h23=>?_) (fun h23=>?_)))))
  ·
   refine Wu 4 [0] hs rfl<|T_ret<|Zz results248 rfl ?_
   exact ⟨_,[],hs.done,rfl,congrArg Value.bool (by rw [hso,someK_step oM,← hq,← hw,h23];rfl)⟩
  refine Wu 2 [] hs rfl<|Zy hs (Ya (s:=((k+1:Nat):Int)) rfl<|Wp 1 [] hs rfl<|Zx [3,8,9,10] rfl ⟨k+1,_,by omega,by rw [hso,someK_step oM,← hq,← hw,h23];rfl,rfl,rfl,hs⟩)
 refine Wp 4 [0] hs rfl<|Wu 4 [0] hs rfl<|T_ret<|Zz results248 rfl ?_
 exact ⟨_,[],hs.done,rfl,congrArg Value.bool (by rw [hso,show k=t.acc.length by omega,someK_end])⟩
theorem keyP:KeyT prog 31 pairK:=KeyT.pair underlying31 sizeOf3 isAgg3 underlying3
theorem jnP_old {a b:Tb} {st:Jn} {x:Nat} {p:Nat×Nat} (hp:p=(a.cell.getD x 0,b.cell.getD x 0)) (h:posK p st.keys<st.keys.length):jnP a b st x={ st with cell:=st.cell++[posK p st.keys] }:=by
  subst hp;unfold jnP;simp only [if_pos h]
theorem jnP_new {a b:Tb} {st:Jn} {x:Nat} {p:Nat×Nat} (hp:p=(a.cell.getD x 0,b.cell.getD x 0)) (h:¬ posK p st.keys<st.keys.length):jnP a b st x=⟨st.keys++[p],st.cell++[st.bytes.length],st.bytes++[x]⟩:=by
  subst hp;unfold jnP;simp only [if_neg h]
structure JnOk (k:Nat) (st:Jn):Prop where
  nd:st.keys.Nodup
  kl:st.keys.length=st.bytes.length
  cl:st.cell.length=k
  le:st.bytes.length≤k
  lt:∀ c∈st.cell,c<st.bytes.length
  bt:∀ x∈st.bytes,x<k
theorem jnP_ok {a b:Tb} {k:Nat} {st:Jn} (h:JnOk k st):JnOk (k+1) (jnP a b st k):=by
  by_cases hp:posK (a.cell.getD k 0,b.cell.getD k 0) st.keys<st.keys.length
  · rw [jnP_old rfl hp]
    refine ⟨h.nd,h.kl,by simp [h.cl],by have:=h.le;show st.bytes.length≤_;omega,fun c hc=>?_,fun x hx=>by have:=h.bt x hx;omega⟩
    rcases List.mem_append.1 hc with hc | hc
    · exact h.lt c hc
    · rw [List.mem_singleton.1 hc];have:=h.kl;show _<st.bytes.length;omega
  · rw [jnP_new rfl hp]
    refine ⟨key_nodup h.nd hp,by simp [h.kl],by simp [h.cl],by have:=h.le;simp;omega,fun c hc=>?_,fun x hx=>?_⟩
    · rcases List.mem_append.1 hc with hc | hc
      · have:=h.lt c hc;simp;omega
      · rw [List.mem_singleton.1 hc];simp
    · rcases List.mem_append.1 hx with hx | hx
      · have:=h.bt x hx;omega
      · rw [List.mem_singleton.1 hx];omega
def jnK (a b:Tb) (k:Nat):Jn:=(List.range k).foldl (jnP a b) ⟨[],[],[]⟩
theorem jnK_succ {a b:Tb} (k:Nat):jnK a b (k+1)=jnP a b (jnK a b k) k:=by unfold jnK;rw [List.range_succ,List.foldl_append];rfl
theorem jnK_ok {a b:Tb}:∀ k,JnOk k (jnK a b k)
  | 0=>⟨List.nodup_nil,rfl,rfl,Nat.le_refl _,(fun c hc=>(List.not_mem_nil hc).elim),(fun c hc=>(List.not_mem_nil hc).elim)⟩
  | k+1=>by rw [jnK_succ];exact jnP_ok (jnK_ok k)
theorem jointF_eq (a b:Tb):jointF a b=jnK a b 256:=rfl
def cellC (l:List Nat) (k:Nat):List Value:=List.map i64n (l++List.replicate (256-k) 0)
theorem cellC_set {l:List Nat} {k v:Nat} (hl:l.length=k) (h:k<256):(cellC l k).set k (i64n v)=cellC (l++[v]) (k+1):=by
  unfold cellC;rw [← fillN_step hl h,List.map_set]
theorem cellC_len {l:List Nat} {k:Nat} (hl:l.length=k) (h:k≤256):(cellC l k).length=256:=by unfold cellC;simp;omega
theorem cellC_full {l:List Nat} (hl:l.length=256):cellC l 256=l.map i64n:=by unfold cellC;rw [Nat.sub_self,List.replicate_zero,List.append_nil]
theorem i64n_one {l:List Nat}:((l.map i64n).all fun v=>v.oneCell')=true:=by
  rw [List.all_eq_true];intro v hv;obtain ⟨x,_,rfl⟩:=List.mem_map.1 hv;rfl
theorem cellC_one {l:List Nat} {k:Nat}:((cellC l k).all fun v=>v.oneCell')=true:=i64n_one
theorem joint_ok {G:Ghost} {v w:Value} {x y:Tb} (htx:TbR G v x) (hty:TbR G w y) :
  FnOk prog 242 [v,w] G [] fun r G' H'=>H'=[]∧∃ vb,r=.tuple #[.agg ((jointF x y).cell.map i64n).toArray,vb]∧Nats G' vb (jointF x y).bytes:=by
 obtain ⟨ux,wx,rfl,hcx,hNx,hAx⟩:=htx
 obtain ⟨Nx,nx,rfl⟩:=LstR.slice hNx
 obtain ⟨Ax,ax,rfl,_⟩:=id hAx
 obtain ⟨uy,wy,rfl,hcy,hNy,hAy⟩:=hty
 obtain ⟨Ny,ny,rfl⟩:=LstR.slice hNy
 obtain ⟨Ay,ay,rfl,_⟩:=id hAy
 refine FnOk.of_T [(0,_),(1,_)] func242 rfl ntmps242 sM rfl fun w0 hs =>Wt 2 [] hs rfl<|O_s (S_box hs rfl (cs:=_) rfl fun b2 _ hs =>O_s (S_box hs rfl (cs:=_) rfl fun b3 _ hs =>O_s (S_alloc hs zeroValue274 (cs:=(List.map i64n (List.replicate 256 0))) rfl fun b4 _ hs =>Wp 4 [0] hs rfl<|O_s (S_alloc hs zeroValue274 (cs:=(List.map i64n (List.replicate 256 0))) rfl fun b6 _ hs =>Wp 7 [0,0] hs rfl<|O_s (S_makeMap hs fun b13 _ hs =>Wp 7 [0,0] hs rfl ?_)))))
 have hs:=hs.nilRow 3 1
 have hs:=hs.f4.f5.f5.f5.f4.f5
 refine Zl [2,3,4,6,7,8,14] (fun m E w=>∃ (k:Nat) (v7:Value) (G2:Ghost),k≤256∧m=256-k∧E=⟨[],[(2,Vp b2),(3,Vp b3),(4,Vp b4),(6,Vp b6),(7,v7),(8,.map (some b13)),(14,Vi (k:Int))]⟩∧St ⟨w0,G,feet []⟩ G2 [.obj b13 (.map (esOf pairK (jnK x y k).keys).toArray (jnK x y k).keys.length),.row 3 1 (v7) (jnK x y k).bytes.length ((jnK x y k).bytes.map natV),.blk b6 274 (cellC (jnK x y k).cell k),.blk b4 274 (cellC [] 0),.blk b2 276 (tabC x.cell x.cells (.slice Nx x.next.length nx) (.slice Ax x.acc.length ax)),.blk b3 276 (tabC y.cell y.cells (.slice Ny y.next.length ny) (.slice Ay y.acc.length ay))] w) rfl (⟨0,_,_,by omega,rfl,rfl,hs⟩) fun m E w hI=>?_
 obtain ⟨k,v7,G2,hk,rfl,rfl,hs⟩:=hI
 have hjo:=jnK_ok (a:=x) (b:=y) k
 refine Wt 2 [] hs rfl<|Zy hs (Yc rfl (fun h15=>?_) fun h15=>?_)
 ·
  refine Wp 11 [0,0] hs rfl ?_
  obtain ⟨a0,ha0⟩:∃ z,z=x.cell.getD k 0:=⟨_,rfl⟩
  obtain ⟨b0,hb0⟩:∃ z,z=y.cell.getD k 0:=⟨_,rfl⟩
  have hnd:=hjo.nd
  refine Wu 1 [] hs rfl<|T_drawS [0,1,2,3,4,5,6,7,8,9] hs kR ?_
  replace hs:=hs.drew
  refine Xr [0,1] [0] hs rfl<|Xt 2 hs rfl (Y_idxArr' k underlying274 sizeOf3 rfl rfl rfl oM<|Xt 3 hs rfl (Y_ld 4 isAgg3 rfl rfl (show (tabC x.cell x.cells (.slice Nx x.next.length nx) (.slice Ax x.acc.length ax))[k]?=some (natV a0) from by rw [ha0];exact tabC_c hcx oM)<|Xr [4,5] [0] hs rfl<|Xt 6 hs rfl (Y_idxArr' k underlying274 sizeOf3 rfl rfl rfl oM<|Xt 7 hs rfl (Y_ld 5 isAgg3 rfl rfl (show (tabC y.cell y.cells (.slice Ny y.next.length ny) (.slice Ay y.acc.length ay))[k]?=some (natV b0) from by rw [hb0];exact tabC_c hcy oM)<|Xt 8 hs rfl (Y_buildA underlying31 sizeOf3 zeroValue31 rfl rfl (cs:=[_,_]) rfl ?_)))))
  have hle:=hs.le
  refine Xo 9 rfl (Sa hs zeroValue31 rfl fun b10 _ hs=>A_moreS hs hle (Ghost.le.refl _) (List.sublist_cons_self _ _)<|Xn 10 rfl (S_stA hs sizeOf31 rfl rfl (vs:=[_,_]) rfl (rfl) sM (cs':=[_,_]) rfl fun _ hs =>Xe (Zk [2,3,4,6,7,8,9,10,14] rfl<|Wu 4 [0] hs rfl<|Zy hs (Y_lookupK (a:=(a0,b0)) 1 rfl underlying76 keyP zeroValue3 hnd rfl rfl (fun hno=>?_) (fun hyes=>?_)))))
  ·
   refine Wp 16 [0,0] hs rfl<|Zy hs (Y_lenOwn 2 rfl underlying45 rfl hs<|Wp 7 [0,0] hs rfl<|O_n (S_putK hs.f1 underlying76 keyP hnd hno rfl rfl (by rw [hjo.kl];rfl) fun _ hs =>Wp 4 [9,2,3,4,6,7,8,9,11,14] hs rfl<|O_s (S_lit hs underlying45 sizeOf3 zeroValue3 rfl rfl dC dC rfl (cs:=[_]) rfl rfl fun v1 _ hs _=>?_)))
   obtain ⟨_,hG41,hl41,hs⟩:=hs.fixRow noM
   refine O_s (S_append hs.f2 underlying45 TI3 rfl dC rfl rfl (hl41) (one1 rfl) (by have:=hjo.le;omega) (by have:=hjo.le;omega) fun v2 _ hs =>Wp 5 [0] hs rfl<|Zy hs (Y_idxArr' k underlying274 sizeOf3 rfl rfl rfl oM<|O_n (S_st hs.f3 sizeOf3 rfl rfl rfl (by rw [cellC_len hjo.cl oM];omega) (cs':=cellC ((jnK x y k).cell++[(jnK x y k).bytes.length]) (k+1)) (cellC_set hjo.cl oM) fun _ hs =>Wp 2 [0] hs rfl<|Zy hs (Ya (s:=((k+1:Nat):Int)) rfl<|Wp 1 [] hs rfl ?_))))
   have hs:=hs.f6.f6.f6.f3.f4.f5
   have hst:=jnP_new (a:=x) (b:=y) (st:=jnK x y k) (x:=k) (p:=(a0,b0)) (by rw [ha0,hb0]) hno
   refine Zx [2,3,4,6,7,8,14] rfl ⟨k+1,v2,_,by omega,rfl,rfl,castH (hs.weak hs.le (Ghost.le.refl _) (List.sublist_append_left [_,_,_,_,_,_] _)) (by rw [jnK_succ,hst];simp [natV])⟩
  refine Wp 17 [0,0] hs rfl<|Zy hs (Y_idxArr' k underlying274 sizeOf3 rfl rfl rfl oM<|O_n (S_st hs.f3 sizeOf3 rfl rfl rfl (by rw [cellC_len hjo.cl oM];omega) (cs':=cellC ((jnK x y k).cell++[(posK (a0,b0) (jnK x y k).keys)]) (k+1)) (cellC_set hjo.cl oM) fun _ hs =>Wp 2 [0] hs rfl<|Zy hs (Ya (s:=((k+1:Nat):Int)) rfl<|Wp 1 [] hs rfl ?_)))
  have hs:=hs.f6.f6.f6.f3.f6.f6
  have hst:=jnP_old (a:=x) (b:=y) (st:=jnK x y k) (x:=k) (p:=(a0,b0)) (by rw [ha0,hb0]) hyes
  refine Zx [2,3,4,6,7,8,14] rfl ⟨k+1,v7,_,by omega,rfl,rfl,castH (hs.weak hs.le (Ghost.le.refl _) (List.sublist_append_left [_,_,_,_,_,_] _)) (by rw [jnK_succ,hst])⟩
 refine Wp 4 [0] hs rfl<|Wu 2 [] hs rfl<|Zy hs (Yk 2 rfl (cellC_len (jnK_ok _).cl oM)<|Wp 1 [] hs rfl<|O_n (S_stW hs.f3 sizeOf274 rfl rfl (vs:=_) Z2 Z2 (cellC_one) fun _ hs =>Wp 2 [0] hs rfl<|T_ret ?_))
 have hs:=hs.f2
 obtain ⟨_,hG_hf7,hf7,hs⟩:=hs.fixRow noM
 have hr:=hs
 refine Rt_fin (vs:=[_,_]) results242 rfl ⟨ResOk_blk 0 hr isAgg274 sizeOf274 rfl (cs:=_) rfl Z2,rfl,trivial⟩ ?_
 try dsimp only [tup]
 obtain rfl:k=256:=by omega
 exact ⟨_,[],hs.done,rfl,_,by rw [cellC_full hjo.cl];rfl,hf7⟩
def targK (t:Tb) (s b k:Nat):Nat:=(List.range k).foldl (fun out q=>if and64 (s / 2 ^ q) 1=1 then or64 out (2 ^ (t.to q (t.cell.getD b 0))) else out) 0
theorem targK_succ {t:Tb} {s b k:Nat}:targK t s b (k+1)=if and64 (s / 2 ^ k) 1=1 then or64 (targK t s b k) (2 ^ (t.to k (t.cell.getD b 0))) else targK t s b k:=by
  unfold targK;rw [List.range_succ,List.foldl_append];rfl
theorem targ_ok {G:Ghost} {v:Value} {t:Tb} {s b:Nat} (ht:TbR G v t) (hok:t.ok) (h64:t.next.length≤64) (hb:b<256) :
  FnOk prog 245 [v,.agg #[u64V s],Vi (b:Int)] G [] fun r _ H'=>H'=[]∧r=.agg #[u64V (targF t s b)]:=by
 obtain ⟨un,ua,rfl,hcl,hN,hA⟩:=ht
 obtain ⟨An,cn,rfl⟩:=LstR.slice hN
 obtain ⟨Aa,ca,rfl,_⟩:=id hA
 obtain ⟨hn1,hn2,hal,hce5,hrows,hcells⟩:=hok
 refine FnOk.of_T [(0,_),(1,_),(2,_)] func245 rfl ntmps245 sM rfl fun w0 hs=>?_
 have hN0:=hN
 refine Wt 2 [] hs rfl<|O_s (S_box hs rfl (cs:=_) rfl fun b3 _ hs =>O_s (Sb hs rfl fun b4 _ hs=>O_s (Sa hs zeroValue284 rfl fun b6 _ hs=>Wp 3 [0] hs rfl<|O_s (Sa hs zeroValue284 rfl fun b7 _ hs=>Wp 5 [0,257] hs rfl<|Zy hs (Y_ld 3 isAgg36 rfl rfl (tabC_2 hcl)<|Wp 3 [0] hs rfl ?_)))))
 have hs:=hs.f3.f2.f3.f3
 refine Zl [2,3,4,6,7,11,12] (fun m E w=>∃ (k:Nat) (G2:Ghost),k≤t.next.length∧m=t.next.length-k∧E=⟨[],[(2,Vi (b:Int)),(3,Vp b3),(4,Vp b4),(6,Vp b6),(7,Vp b7),(11,Vi ((t.next.length:Nat):Int)),(12,Vi (k:Int))]⟩∧St ⟨w0,G,feet []⟩ G2 [.blk b7 284 [u64V (targK t s b k)],.blk b4 284 [u64V s],.blk b6 284 [u64V 0],.blk b3 276 (tabC t.cell t.cells (.slice An t.next.length cn) (.slice Aa t.acc.length ca))] w) rfl (⟨0,_,by omega,rfl,rfl,hs⟩) fun m E w hI=>?_
 obtain ⟨k,G2,hk,rfl,rfl,hs⟩:=hI
 have hN:=hN0.mono hs.le
 refine Wt 2 [] hs rfl<|Zy hs (Yc rfl (fun h13=>?_) fun h13=>?_)
 ·
  refine Wp 11 [0,0] hs rfl ?_
  obtain ⟨w,hw⟩:∃ w,w=decide (and64 (s / 2 ^ k) 1=1):=⟨_,rfl⟩
  refine Wu 2 [] hs rfl<|Zy hs (Y_idxArr 0 underlying284 sizeOf102 rfl rfl rfl dC (m:=0) rfl<|Wp 2 [1] hs rfl<|Zy hs (Y_shr64 k oM rfl rfl<|Zy hs (Y_and64 (b:=1) rfl rfl<|Zy hs (Y_cmpB (t:=w) rfl rfl rfl (by rw [hw,decide_eq_true_iff];show _=_↔_;omega)<|Wp 1 [0] hs rfl<|T_condS rfl (fun h20=>?_) (fun h20=>?_)))))
  ·
   obtain ⟨c,hce⟩:∃ c,c=t.cell.getD b 0:=⟨_,rfl⟩
   have hcc:c<t.cells:=by rw [hce,getD_lt oM];exact hcells _ (List.getElem_mem _)
   refine T_drawS [0,1,2,3,4,5,6,7,8,9,10,11,12,13,14,15] hs kR ?_
   replace hs:=hs.drew
   refine Xt 0 hs rfl (Y_idxArr 0 underlying284 sizeOf102 rfl rfl rfl dC (m:=0) rfl<|Xr [1,2] [0,257] hs rfl<|Xt 3 hs rfl (Y_ld 3 isAgg36 rfl rfl (tabC_2 hcl)<|Xr [4] [] hs rfl<|Xt 5 hs rfl (Y_idxS hN k underlying36 sizeOf45 rfl rfl rfl oM fun p26 c26 hp26 hc26 hR26=>?_)))
   obtain ⟨rr,herr⟩:∃ r,r=t.next[k]'oM:=⟨_,rfl⟩
   rw [← herr] at hR26
   have hlrr:rr.length=t.cells∧∀ x∈rr,x<t.next.length:=hrows rr Z29
   obtain ⟨u26,rfl,hrr⟩:=hR26
   obtain ⟨A26,c26,rfl,_⟩:=id hrr
   refine Xt 6 hs rfl (Yg rfl (hp26 0 (.slice A26 rr.length c26) rfl)<|Xr [7,8] [0] hs rfl<|Xt 9 hs rfl (Y_idxArr' b underlying274 sizeOf3 rfl rfl rfl oM<|Xt 10 hs rfl (Y_ld 3 isAgg3 rfl rfl (show (tabC t.cell t.cells (.slice An t.next.length cn) (.slice Aa t.acc.length ca))[b]?=some (natV c) from by rw [hce];exact tabC_c hcl oM)<|Xt 11 hs rfl (Y_idxN hrr c underlying45 sizeOf3 rfl rfl rfl oM fun p32 hp32=>?_))))
   obtain ⟨x,hxe⟩:∃ x,x=rr[c]'oM:=⟨_,rfl⟩
   rw [← hxe] at hp32
   have hxN:x<t.next.length:=hlrr.2 x Z33
   refine Xt 12 hs rfl (Yg rfl (hp32)<|Xt 13 hs rfl (Y_shl1 x oM rfl rfl<|Xt 14 hs rfl (Y_or64 rfl rfl<|Xt 15 hs rfl (Y_idxArr 0 underlying284 sizeOf102 rfl rfl rfl dC (m:=0) rfl<|Xn 16 rfl (Sd hs rfl rfl fun _ hs=>Xe (Zk [2,3,4,6,7,11,12] rfl ?_))))))
   refine Zr<|Zy hs (Ya (s:=((k+1:Nat):Int)) rfl<|Wp 1 [] hs rfl ?_)
   have hs:=hs.f3.f3.f3.f3
   have hxx:t.to k (t.cell.getD b 0)=x:=by rw [← hce,to_at oM (by rw [← herr];omega)];simp only [← herr];exact hxe.symm
   refine Zx [2,3,4,6,7,11,12] rfl ⟨k+1,_,by omega,rfl,rfl,castH hs (by rw [targK_succ,if_pos (of_decide_eq_true (hw.symm.trans h20)),hxx])⟩
  refine Wu 2 [] hs rfl<|Zy hs (Ya (s:=((k+1:Nat):Int)) rfl<|Wp 1 [] hs rfl ?_)
  have hs:=hs.f3.f3.f3.f3
  refine Zx [2,3,4,6,7,11,12] rfl ⟨k+1,_,by omega,rfl,rfl,castH hs (by rw [targK_succ,if_neg (of_decide_eq_false (hw.symm.trans h20))])⟩
 refine Wp 4 [0] hs rfl<|Wu 3 [0] hs rfl<|O_n (Sg hs.f2 rfl (rfl) fun _ hs=>Wp 1 [0] hs rfl<|T_ret<|Zz results245 (Rb 0 hs rfl rF) ?_)
 obtain rfl:k=t.next.length:=by omega
 exact ⟨_,[],hs.done,rfl,rfl⟩
theorem TI286:TI prog 286 (.agg #[Vi 0,Vi 0,.int .u64 0]) 3 24:=TI.of kR
def stC (a:Cs):List Value:=[Vi (a.p:Int),Vi (a.q:Int),.int .u64 (a.s:Int)]
def stK (a:Cs):Value:=.agg #[Vi (a.p:Int),Vi (a.q:Int),.int .u64 (a.s:Int)]
def stF (l:List Cs):List Value:=(l.map stC).flatten
theorem stF_snoc (l:List Cs) (a:Cs):stF (l++[a])=stF l++stC a:=by unfold stF;simp
theorem stF_at:∀ {l:List Cs} {i:Nat} (h:i<l.length),((stF l).drop (i*3)).take 3=stC l[i]
  | a::l,0,_=>by show (stC a++stF l).take 3=_;rfl
  | a::l,i+1,h=>by
    show ((stC a++stF l).drop ((i+1)*3)).take 3=_
    rw [List.drop_append,show (i+1)*3-(stC a).length=i*3 by simp [stC];omega,List.drop_eq_nil_of_le (by simp [stC];omega),List.nil_append]
    exact stF_at Z49
theorem keySt:KeyT prog 286 stK:=KeyT.state (p:=Cs.p) (q:=Cs.q) (s:=Cs.s) (fun a b h1 h2 h3=>by cases a;cases b;simp_all) underlying286 kR dC dC dC rfl rfl rfl rfl rfl rfl isAgg3 underlying3 underlying284 sizeOf284 isAgg284 sizeOf102 isAgg102 underlying102
theorem putL_pre:∀ (ys a xs r:List Value),xs.length=ys.length→putL (a++xs++r) a.length ys=a++ys++r
  | [],a,[],r,_=>rfl
  | y::ys,a,x::xs,r,h=>by
    rw [putL]
    have h1:(a++x::xs++r).set a.length y=(a++[y])++xs++r:=by
      rw [List.append_assoc,List.set_append_right _ _ oM,Nat.sub_self];simp
    rw [h1,show a.length+1=(a++[y]).length by simp,putL_pre ys (a++[y]) xs r Z49]
    simp
theorem fill276 {cell:List Nat} {n:Nat} (h:cell.length=256):fillL (([(0,256),(256,1),(257,1),(258,1)]:List (Nat×Nat))[·]?) (tabC (List.replicate 256 0) 0 (Vn) (Vn)) [(0,.agg (cell.map i64n).toArray),(1,Vi (n:Int))]=some (tabC cell n (Vn) (Vn)):=by
  have h2:(cell.map i64n).length=256:=by rw [List.length_map];exact h
  have hp:=putL_pre (cell.map i64n) [] (List.map i64n (List.replicate 256 0)) [Vi 0,Vn,Vn] (by rw [h2,List.length_map,List.length_replicate])
  have hl:(tabC (List.replicate 256 0) 0 (Vn) (Vn)).length=259:=tabC_len List.length_replicate
  have ht:putL (tabC (List.replicate 256 0) 0 (Vn) (Vn)) 0 (cell.map i64n)=cell.map i64n++[Vi 0,Vn,Vn]:=hp
  rw [fillL]
  simp only [List.getElem?_cons_zero,show (Value.agg (cell.map i64n).toArray).cells.toList=cell.map i64n from rfl,h2,hl,ht]
  show fillL _ (cell.map i64n++_) _=_
  rw [fillL]
  simp only [List.getElem?_cons_succ,List.getElem?_cons_zero,show (Value.int .i64 (n:Int)).cells.toList=[Vi (n:Int)] from rfl]
  have hl2:(cell.map i64n++[Value.int .i64 0,Vn,Vn]).length=259:=by rw [List.length_append,h2];rfl
  rw [hl2]
  simp only [show ([Value.int .i64 (n:Int)].length.beq 1 && (256+[Value.int .i64 (n:Int)].length).ble 259)=true from rfl,cond_true]
  rw [fillL,putL,putL,List.set_append_right _ _ oM,h2]
  rfl
theorem tabC_set2 {cell:List Nat} {n:Nat} {vn va v:Value} (h:cell.length=256):(tabC cell n vn va).set 257 v=tabC cell n v va:=by
  unfold tabC;rw [List.set_append_right _ _ Z40,List.length_map,h];rfl
theorem tabC_set3 {cell:List Nat} {n:Nat} {vn va v:Value} (h:cell.length=256):(tabC cell n vn va).set 258 v=tabC cell n vn v:=by
  unfold tabC;rw [List.set_append_right _ _ Z40,List.length_map,h];rfl
theorem exP_old {nx:Cs→Nat→Cs} {most:Nat} {s to:Cs} {st:Ex} {b:Nat} (ht:to=nx s b) (h:posK to st.l<st.l.length):exP nx most s (some st) b=some { st with row:=st.row++[posK to st.l] }:=by
  subst ht;unfold exP;simp only [if_pos h]
theorem exP_new {nx:Cs→Nat→Cs} {most:Nat} {s to:Cs} {st:Ex} {b:Nat} (ht:to=nx s b) (h:¬ posK to st.l<st.l.length) (hm:¬ st.l.length=most):exP nx most s (some st) b=some ⟨st.l++[to],st.row++[st.l.length]⟩:=by
  subst ht;unfold exP;simp only [if_neg h,if_neg hm]
theorem exP_full {nx:Cs→Nat→Cs} {most:Nat} {s to:Cs} {st:Ex} {b:Nat} (ht:to=nx s b) (h:¬ posK to st.l<st.l.length) (hm:st.l.length=most):exP nx most s (some st) b=none:=by
  subst ht;unfold exP;simp only [if_neg h,if_pos hm]
theorem exP_none {nx:Cs→Nat→Cs} {most:Nat} {s:Cs}:∀ (bs:List Nat),bs.foldl (exP nx most s) none=none
  | []=>rfl
  | _::bs=>exP_none bs
theorem ex_here {nx:Cs→Nat→Cs} {most k:Nat} {s:Cs} {bs:List Nat} {o:Option Ex} {z:Ex} {S:Ex} (h:bs.foldl (exP nx most s) o=some S) (hk:k<bs.length) (hz:(bs.take k).foldl (exP nx most s) o=some z):exP nx most s (some z) bs[k]≠none:=by
  intro hn
  rw [← List.take_append_drop (k+1) bs,List.foldl_append,foldl_take_succ _ _ bs k hk,hz,hn,exP_none] at h
  cases h
theorem exG_pos {bytes:List Nat} {nx:Cs→Nat→Cs} {ac:Cs→Bool} {most f i:Nat} {l:List Cs} {nt:List (List Nat)} {ct:List Bool} {R:Option (List (List Nat)×List Bool)} (h:exG bytes nx ac most f i l nt ct=some R):0<f:=by
  cases f with
  | zero=>cases h
  | succ f=>omega
theorem exG_end {bytes:List Nat} {nx:Cs→Nat→Cs} {ac:Cs→Bool} {most f i:Nat} {l:List Cs} {nt:List (List Nat)} {ct:List Bool} {R:List (List Nat)×List Bool} (hi:l.length≤i) (h:exG bytes nx ac most f i l nt ct=some (some R)):R=(nt,ct):=by
  cases f with
  | zero=>cases h
  | succ f =>
    rw [exG,List.getElem?_eq_none hi] at h
    injection h with h;injection h with h;exact h.symm
theorem exG_go {bytes:List Nat} {nx:Cs→Nat→Cs} {ac:Cs→Bool} {most f i:Nat} {l:List Cs} {nt:List (List Nat)} {ct:List Bool} {R:List (List Nat)×List Bool} (hi:i<l.length) (h:exG bytes nx ac most (f+1) i l nt ct=some (some R)) :
    ∃ st,bytes.foldl (exP nx most l[i]) (some ⟨l,[]⟩)=some st∧exG bytes nx ac most f (i+1) st.l (nt++[st.row]) (ct++[ac l[i]])=some (some R):=by
  rw [exG,List.getElem?_eq_getElem hi] at h
  simp only at h
  split at h
  · cases h
  · rename_i st hst
    exact ⟨st,hst,h⟩
structure ExOk (ok:Cs→Prop) (most i k:Nat) (s:Cs) (st:Ex):Prop where
  nd:st.l.Nodup
  at':st.l[i]?=some s
  rl:st.row.length=k
  ok:∀ a∈st.l,ok a
  le:st.l.length≤most
theorem ExOk.gt {ok:Cs→Prop} {most i k:Nat} {s:Cs} {st:Ex} (h:ExOk ok most i k s st):∃ hi:i<st.l.length,st.l[i]=s:=List.getElem?_eq_some_iff.1 h.at'
theorem ExOk.old {ok:Cs→Prop} {most i k v:Nat} {s:Cs} {st:Ex} (h:ExOk ok most i k s st):ExOk ok most i (k+1) s ⟨st.l,st.row++[v]⟩:=⟨h.nd,h.at',by simp [h.rl],h.ok,h.le⟩
theorem ExOk.new {ok:Cs→Prop} {most i k v:Nat} {s to:Cs} {st:Ex} (h:ExOk ok most i k s st) (ht:ok to) (hno:¬ posK to st.l<st.l.length) (hm:¬ st.l.length=most):ExOk ok most i (k+1) s ⟨st.l++[to],st.row++[v]⟩:=by
  refine ⟨key_nodup h.nd hno,?_,by simp [h.rl],fun a ha=>?_,by have:=h.le;simp;omega⟩
  · obtain ⟨hi,he⟩:=h.gt
    show (st.l++[to])[i]?=some s
    rw [List.getElem?_append_left hi,List.getElem?_eq_getElem hi,he]
  · rcases List.mem_append.1 ha with ha | ha
    · exact h.ok a ha
    · rw [List.mem_singleton.1 ha];exact ht
theorem stC_one {a:Cs}:∀ y∈[Value.int .i64 (a.p:Int),Vi (a.q:Int),.int .u64 (a.s:Int)],y.oneCell'=true:=by
  intro y hy
  simp only [List.mem_cons,List.not_mem_nil,or_false] at hy
  rcases hy with rfl | rfl | rfl<;>rfl
theorem expl_ok {G:Ghost} {vb:Value} {cell bytes:List Nat} {start:Cs} {nx:Cs→Nat→Cs} {ac:Cs→Bool} {ok:Cs→Prop} {most f1 f2:Nat} {lb1 lb2:List Value} {fn1 fn2:Func} {R:List (List Nat)×List Bool} (hcl:cell.length=256) (hb:Nats G vb bytes) (hbl:bytes.length≤256) (hm1:1≤most) (hmost:most≤5000) (hst:ok start) (hokn:∀ s,∀ c∈bytes,ok s→ok (nx s c))
  (hfn1 : prog.funcs[f1]? = some fn1) (hbd1 : fn1.body.isSome = true) (hnm1 : (fn1.name == "runtime.NumGoroutine") = false) (hfn2 : prog.funcs[f2]? = some fn2) (hbd2 : fn2.body.isSome = true) (hnm2 : (fn2.name == "runtime.NumGoroutine") = false)
  (hg1:∀ (G':Ghost) (s:Cs) (c:Nat),ok s→c∈bytes→G.le G'→FnOk prog f1 (.agg #[Vi (s.p:Int),Vi (s.q:Int),.int .u64 (s.s:Int)]::Vi (c:Int)::lb1) G' [] fun r _ H'=>H'=[]∧r=stK (nx s c)) (hg2:∀ (G':Ghost) (s:Cs),ok s→G.le G'→FnOk prog f2 (.agg #[Vi (s.p:Int),Vi (s.q:Int),.int .u64 (s.s:Int)]::lb2) G' [] fun r _ H'=>H'=[]∧r=.bool (ac s)) (hR:exG bytes nx ac most (most+1) 0 [start] [] []=some (some R)) :
  FnOk prog 246 [(.agg (cell.map i64n).toArray),vb,.agg #[Vi (start.p:Int),Vi (start.q:Int),.int .u64 (start.s:Int)],.func (.func f1) #[] lb1.toArray,.func (.func f2) #[] lb2.toArray,Vi (most:Int)] G [] fun r G' H'=>H'=[]∧∃ vt,r=.tuple #[vt,Vt]∧TbR G' vt ⟨cell,bytes.length,R.1,R.2⟩:=by
 obtain ⟨Ab,cb,rfl,_⟩:=id hb
 refine FnOk.of_T [(0,_),(1,_),(2,_),(3,_),(4,_),(5,_)] func246 rfl ntmps246 sM rfl fun w0 hs=>?_
 have hb0:=hb
 refine Wt 2 [] hs rfl<|O_s (S_box hs rfl (cs:=_) rfl fun b6 _ hs =>O_s (Sb hs rfl fun b8 _ hs=>O_s (S_alloc hs zeroValue276 (cs:=(tabC (List.replicate 256 0) 0 (Vn) (Vn))) rfl fun b12 _ hs =>Wp 4 [0] hs rfl<|Zy hs (Yk 2 rfl Z10<|Wp 2 [] hs rfl<|Zy hs (Y_build (zs:=(tabC (List.replicate 256 0) 0 (Vn) (Vn))) zeroValue276 kR (pl:=[(0,256),(256,1),(257,1),(258,1)]) kR rfl (cs:=(tabC cell bytes.length (Vn) (Vn))) (fill276 hcl)<|O_s (S_alloc hs zeroValue276 (cs:=(tabC (List.replicate 256 0) 0 (Vn) (Vn))) rfl fun b14 _ hs =>O_n (S_stW hs sizeOf276 rfl rfl (vs:=_) Z10 Z10 (tabC_one rfl rfl) fun _ hs =>Wp 3 [0] hs rfl<|O_s (S_makeMap hs fun b28 _ hs =>Wp 1 [3] hs rfl<|O_n (S_insK (ks:=([]:List Cs)) (a:=start) (enc:=stK) hs underlying324 keySt List.nodup_nil (by simp [posK]) rfl rfl rfl fun _ hs =>Wp 6 [0,3] hs rfl<|O_s (S_lit hs underlying325 sizeOf286 zeroValue286 rfl rfl dC dC rfl (cs:=[_,_,_]) rfl rfl fun v1 _ hs _ =>Wp 7 [0,0] hs rfl ?_))))))))))
 have hs:=hs.nilRow 4 1
 have hs:=hs.nilRow 45 1
 have hs:=hs.f5.f6.f7.f4.f4.f7.f6.f7
 refine Zl [1,3,4,5,12,14,15,16,17] (fun m E w=>∃ (f i:Nat) (l:List Cs) (nt:List (List Nat)) (ct:List Bool) (vs:List Value) (vl vn va:Value) (G2:Ghost),exG bytes nx ac most f i l nt ct=some (some R)∧l.Nodup∧(∀ a∈l,ok a)∧l.length≤most∧nt.length=i∧ct.length=i∧vs.length=i∧i≤l.length∧LRows G2 vs nt∧m=f∧E=⟨[],[(1,(.slice Ab bytes.length cb)),(3,.func (.func f1) #[] lb1.toArray),(4,.func (.func f2) #[] lb2.toArray),(5,Vi (most:Int)),(12,Vp b12),(14,Vp b14),(15,.map (some b28)),(16,vl),(17,Vi (i:Int))]⟩∧St ⟨w0,G,feet []⟩ G2 [.obj b28 (.map (esOf stK l).toArray l.length),.row 286 3 (vl) l.length (stF l),.blk b14 276 (tabC cell bytes.length vn va),.row 45 1 (vn) nt.length vs,.row 4 1 (va) ct.length (ct.map boolV),.blk b6 274 (List.map i64n cell),.blk b8 286 (stC start),.blk b12 276 (tabC (List.replicate 256 0) 0 (Vn) (Vn))] w) rfl (⟨most+1,0,[start],[],[],[],_,_,_,_,hR,by simp,by intro a ha;rw [List.mem_singleton.1 ha];exact hst,hm1,rfl,rfl,rfl,by simp,trivial,rfl,rfl,hs⟩) fun m E w hI=>?_
 obtain ⟨f,i,l,nt,ct,vs,vl,vn,va,G2,hg,hlnd,hlok,hlm,hnl,hacl,hvl,hil1,hrs,rfl,rfl,hs⟩:=hI
 have hb:=hb0.mono hs.le
 refine Wt 5 [] hs rfl<|Zy hs (Y_lenOwn 1 rfl underlying325 rfl hs<|Zy hs (Yc rfl (fun h36=>?_) fun h36=>?_))
 ·
  refine Wp 3 [0] hs rfl ?_
  have hfp:=exG_pos hg
  obtain ⟨fu1,rfl⟩:∃ g,m=g+1:=⟨m-1,by omega⟩
  have hil0:i<l.length:=by omega
  obtain ⟨S,hfull,hrest⟩:=exG_go hil0 hg
  obtain ⟨s,hse⟩:∃ z,z=l[i]:=⟨_,rfl⟩
  rw [← hse] at hfull hrest
  have hex0:ExOk ok most i 0 s ⟨l,[]⟩:=⟨hlnd,by show l[i]?=_;rw [List.getElem?_eq_getElem hil0,hse],rfl,hlok,hlm⟩
  refine Wu 6 [] hs rfl<|O_s (S_make (n:=bytes.length) (m:=bytes.length) hs underlying45 TI3 rfl rfl rfl oM oM oM fun b41 _ hs =>Wp 9 [0,0] hs rfl ?_)
  have hs:=hs.front 8 rfl (H':=[_,_,_,_,_,_,_,_,_]) rfl
  have hs:=hs.front 8 rfl (H':=[_,_,_,_,_,_,_,_,_]) rfl
  have hs:=hs.front 8 rfl (H':=[_,_,_,_,_,_,_,_,_]) rfl
  have hs:=hs.front 8 rfl (H':=[_,_,_,_,_,_,_,_,_]) rfl
  have hs:=hs.front 8 rfl (H':=[_,_,_,_,_,_,_,_,_]) rfl
  have hs:=hs.front 8 rfl (H':=[_,_,_,_,_,_,_,_,_]) rfl
  have hs:=hs.front 8 rfl (H':=[_,_,_,_,_,_,_,_,_]) rfl
  have hs:=hs.front 8 rfl (H':=[_,_,_,_,_,_,_,_,_]) rfl
  have hs:=hs.front 8 rfl (H':=[_,_,_,_,_,_,_,_,_]) rfl
  rw [rep_nat] at hs
  refine Zl [1,3,4,5,12,14,15,16,17,18,42,43,44] (fun m E w=>∃ (k:Nat) (st:Ex) (vl:Value) (G2:Ghost),k≤bytes.length∧(bytes.take k).foldl (exP nx most s) (some ⟨l,[]⟩)=some st∧ExOk ok most i k s st∧LRows G2 vs nt∧m=bytes.length-k∧E=⟨[],[(1,(.slice Ab bytes.length cb)),(3,.func (.func f1) #[] lb1.toArray),(4,.func (.func f2) #[] lb2.toArray),(5,Vi (most:Int)),(12,Vp b12),(14,Vp b14),(15,.map (some b28)),(16,vl),(17,Vi (i:Int)),(18,Vs b41 bytes.length bytes.length),(42,(.slice Ab bytes.length cb)),(43,Vi ((bytes.length:Nat):Int)),(44,Vi (k:Int))]⟩∧St ⟨w0,G,feet []⟩ G2 [.row 3 1 (Vs b41 bytes.length bytes.length) bytes.length ((st.row++List.replicate (bytes.length-k) 0).map natV),.obj b28 (.map (esOf stK st.l).toArray st.l.length),.row 286 3 (vl) st.l.length (stF st.l),.blk b14 276 (tabC cell bytes.length vn va),.row 45 1 (vn) nt.length vs,.row 4 1 (va) ct.length (ct.map boolV),.blk b6 274 (List.map i64n cell),.blk b8 286 (stC start),.blk b12 276 (tabC (List.replicate 256 0) 0 (Vn) (Vn))] w) rfl (⟨0,⟨l,[]⟩,_,_,by omega,rfl,hex0,hrs,rfl,rfl,hs⟩) fun m E w hI=>?_
  obtain ⟨k,st,vl,G2,hk,hst2,hex,hrs,rfl,rfl,hs⟩:=hI
  have hb:=hb0.mono hs.le
  refine Wt 2 [] hs rfl<|Zy hs (Yc rfl (fun h45=>?_) fun h45=>?_)
  ·
   refine Wp 9 [0] hs rfl<|Zy hs (Y_idxN hb k underlying45 sizeOf3 rfl rfl rfl oM fun p47 hp47=>?_)
   obtain ⟨c,hce⟩:∃ z,z=bytes[k]'oM:=⟨_,rfl⟩
   rw [← hce] at hp47
   have hcb:c∈bytes:=by rw [hce];exact List.getElem_mem _
   refine Zy hs (Yg rfl (hp47)<|Wp 3 [0] hs rfl ?_)
   obtain ⟨hil,hsi⟩:=hex.gt
   obtain ⟨bl,capl,hzbl,_⟩:=hs.rowForm 2 rfl oM
   subst hzbl
   obtain ⟨to,hto⟩:∃ z,z=nx s c:=⟨_,rfl⟩
   have hos:ok s:=by rw [← hsi];exact hex.ok _ (List.getElem_mem _)
   have hot:ok to:=by rw [hto];exact hokn s c hcb hos
   have hnd:=hex.nd
   have hlmx:=hex.le
   refine Wu 5 [] hs rfl<|Zy hs (Y_idxRowK i underlying325 sizeOf286 rfl rfl rfl hil<|Zy hs (Y_ldRowK (vs:=stC s) 2 rfl isAgg286 sizeOf286 rfl hil (by rw [stF_at hil,hsi]) rfl<|Wp 1 [] hs rfl<|O_s (S_callV (args:=[_,_]) (lb:=lb1) (H1:=[]) hs rfl rfl hfn1 hbd1 hnm1 (hg1 _ s c hos hcb hs.le) fun v2 G' H' _ hR hG55 hs=>?_)))
   obtain ⟨rfl,hr55⟩:=hR
   replace hs:=hs.n rfl
   replace hrs:=hrs.mono hG55
   rw [← hto] at hr55
   subst hr55
   refine O_s (Sa hs zeroValue286 rfl fun b21 _ hs=>O_n (S_stA hs sizeOf286 rfl rfl (vs:=[_,_,_]) rfl (rfl) sM (cs':=[_,_,_]) rfl fun _ hs =>Wp 5 [15,1,3,4,5,12,14,15,16,17,18,19,21,42,43,44,0] hs rfl<|Zy hs (Y_lookupK (a:=to) 2 rfl underlying324 keySt zeroValue3 hnd rfl rfl (fun hno=>?_) (fun hyes=>?_))))
   ·
    refine Wp 19 [0,17,1,3,4,5,12,14,15,16,17,18,19,21,22,42,43,44,63,0] hs rfl ?_
    have hmm:¬ st.l.length=most:=fun e=>ex_here hfull (show k<bytes.length by omega) hst2 (by rw [← hce];exact exP_full hto hno e)
    refine Wu 5 [] hs rfl<|Zy hs (Y_cmpF rfl rfl rfl oM<|Wp 8 [0,0] hs rfl<|O_n (S_putK (a:=to) hs.f2 underlying324 keySt hnd hno rfl rfl rfl fun _ hs =>Wp 4 [16,1,3,4,5,12,14,15,16,17,18,19,21,22,42,43,44,1] hs rfl<|O_s (S_lit hs underlying325 sizeOf286 zeroValue286 rfl rfl dC dC rfl (cs:=[_,_,_]) rfl rfl fun v3 _ hs _=>?_)))
    obtain ⟨_,hG75,hl75,hs⟩:=hs.fixRow noM
    replace hrs:=hrs.mono hG75
    refine O_s (S_append hs.f3 underlying325 TI286 rfl dC rfl rfl (hl75) (stC_one) oM oM fun v4 _ hs =>Wp 6 [0] hs rfl<|Zy hs (Y_idxRow (k) underlying45 sizeOf3 rfl rfl rfl oM<|O_n (S_stRow hs.f3 sizeOf3 rfl rfl rfl oM fun _ hs =>Wp 2 [13,1,3,4,5,12,14,15,16,17,18,42,43,44] hs rfl<|Zy hs (Ya (s:=((k+1:Nat):Int)) rfl<|Wp 1 [] hs rfl ?_))))
    have hs:=hs.front 9 rfl (H':=[_,_,_,_,_,_,_,_,_,_]) rfl
    have hs:=hs.front 9 rfl (H':=[_,_,_,_,_,_,_,_,_,_]) rfl
    have hs:=hs.front 9 rfl (H':=[_,_,_,_,_,_,_,_,_,_]) rfl
    have hs:=hs.front 9 rfl (H':=[_,_,_,_,_,_,_,_,_,_]) rfl
    have hs:=hs.front 9 rfl (H':=[_,_,_,_,_,_,_,_,_,_]) rfl
    have hs:=hs.front 9 rfl (H':=[_,_,_,_,_,_,_,_,_,_]) rfl
    have hs:=hs.f7
    have hs:=hs.front 8 rfl (H':=[_,_,_,_,_,_,_,_,_,_]) rfl
    have hs:=hs.front 8 rfl (H':=[_,_,_,_,_,_,_,_,_,_]) rfl
    have hstp:=exP_new (st:=st) (b:=c) (most:=most) hto hno hmm
    refine Zx [1,3,4,5,12,14,15,16,17,18,42,43,44] rfl ⟨k+1,⟨st.l++[to],st.row++[st.l.length]⟩,v4,_,by omega,by rw [foldl_take_succ _ _ bytes k oM,hst2,← hce,hstp],hex.new hot hno hmm,hrs,rfl,rfl,castH (hs.weak hs.le (Ghost.le.refl _) (List.sublist_append_left [_,_,_,_,_,_,_,_,_] _)) (by rw [← fillN_step hex.rl oM];simp [natV,List.map_set,stF_snoc,stC])⟩
   refine Wp 18 [0,17,1,3,4,5,12,14,15,16,17,18,19,21,22,42,43,44,63] hs rfl<|Zy hs (Y_idxRow (k) underlying45 sizeOf3 rfl rfl rfl oM<|O_n (S_stRow hs.f1 sizeOf3 rfl rfl rfl oM fun _ hs =>Wp 2 [0] hs rfl<|Zy hs (Ya (s:=((k+1:Nat):Int)) rfl<|Wp 1 [] hs rfl ?_)))
   have hs:=hs.front 9 rfl (H':=[_,_,_,_,_,_,_,_,_,_]) rfl
   have hs:=hs.front 9 rfl (H':=[_,_,_,_,_,_,_,_,_,_]) rfl
   have hs:=hs.front 9 rfl (H':=[_,_,_,_,_,_,_,_,_,_]) rfl
   have hs:=hs.front 9 rfl (H':=[_,_,_,_,_,_,_,_,_,_]) rfl
   have hs:=hs.front 9 rfl (H':=[_,_,_,_,_,_,_,_,_,_]) rfl
   have hs:=hs.front 9 rfl (H':=[_,_,_,_,_,_,_,_,_,_]) rfl
   have hs:=hs.front 9 rfl (H':=[_,_,_,_,_,_,_,_,_,_]) rfl
   have hs:=hs.front 9 rfl (H':=[_,_,_,_,_,_,_,_,_,_]) rfl
   have hs:=hs.front 8 rfl (H':=[_,_,_,_,_,_,_,_,_,_]) rfl
   have hstp:=exP_old (st:=st) (b:=c) (most:=most) hto hyes
   refine Zx [1,3,4,5,12,14,15,16,17,18,42,43,44] rfl ⟨k+1,⟨st.l,st.row++[posK to st.l]⟩,Vs bl st.l.length capl,_,by omega,by rw [foldl_take_succ _ _ bytes k oM,hst2,← hce,hstp],hex.old,hrs,rfl,rfl,castH (hs.weak hs.le (Ghost.le.refl _) (List.sublist_append_left [_,_,_,_,_,_,_,_,_] _)) (by rw [← fillN_step hex.rl oM];simp [natV,List.map_set])⟩
  refine Wp 4 [0] hs rfl ?_
  obtain rfl:k=bytes.length:=by omega
  rw [Nat.sub_self,List.replicate_zero,List.append_nil] at hs
  rw [List.take_length] at hst2
  obtain ⟨_,hG_hrow,hrow,hs⟩:=hs.fixRow noM
  replace hrs:=hrs.mono hG_hrow
  have hrl:=hex.rl
  replace hrow:Nats _ (Vs b41 bytes.length bytes.length) st.row:=(show Nats _ _ _ from by unfold Nats;rw [hrl];exact hrow)
  obtain rfl:=Option.some.inj (hst2.symm.trans hfull)
  obtain ⟨hil,hsi⟩:=hex.gt
  obtain ⟨bl2,capl2,hzbl2,_⟩:=hs.rowForm 1 rfl oM
  subst hzbl2
  have hos:ok s:=by rw [← hsi];exact hex.ok _ (List.getElem_mem _)
  have hlmx:=hex.le
  refine Wu 3 [257] hs rfl<|Zy hs (Y_ld 2 isAgg36 rfl rfl (tabC_2 hcl)<|Wp 1 [] hs rfl<|O_s (S_lit hs underlying36 sizeOf45 zeroValue45 rfl rfl dC dC rfl (cs:=[_]) rfl rfl fun v5 _ hs _=>?_))
  obtain ⟨_,hG85,hl85,hs⟩:=hs.fixRow noM
  replace hrs:=hrs.mono hG85
  replace hrow:=hrow.mono hG85
  refine O_s (S_append hs.f3 underlying36 TI45 rfl dC rfl rfl (hl85) (one1 rfl) oM oM fun v6 _ hs =>Wp 1 [257] hs rfl<|O_n (S_st hs.f3 sizeOf36 rfl rfl (hs.f3.rowOne 1 rfl) (by rw [tabC_len hcl];omega) (cs':=(tabC cell bytes.length v6 va)) (tabC_set2 hcl) fun _ hs =>Wp 1 [0] hs rfl<|T_drawS [0,1,2,3,4,5,6,7,8] hs kR ?_))
  replace hs:=hs.drew
  refine Xr [0] [258] hs rfl<|Xt 1 hs rfl (Y_ld 0 isAgg94 rfl rfl (tabC_3 hcl)<|Xr [2,3,4] [] hs rfl<|Xt 5 hs rfl (Y_idxRowK i underlying325 sizeOf286 rfl rfl rfl hil<|Xt 6 hs rfl (Y_ldRowK (vs:=stC s) 3 rfl isAgg286 sizeOf286 rfl hil (by rw [stF_at hil,hsi]) rfl ?_)))
  have hle:=hs.le
  refine Xo 7 rfl (S_callV (args:=[_]) (lb:=lb2) (H1:=[]) hs rfl rfl hfn2 hbd2 hnm2 (hg2 _ s hos hs.le) fun v7 G' H' _ hR hG95 hs=>?_)
  obtain ⟨rfl,rfl⟩:=hR
  replace hs:=hs.n rfl
  replace hrs:=hrs.mono hG95
  replace hrow:=hrow.mono hG95
  refine A_moreS hs hle hG95 (List.Sublist.refl _) ?_
  have hle:=hs.le
  refine Xo 8 rfl (S_lit hs underlying94 sizeOf4 zeroValue4 rfl rfl dC dC rfl (cs:=[_]) rfl rfl fun v8 _ hs _=>?_)
  obtain ⟨_,hG96,hl96,hs⟩:=hs.fixRow noM
  replace hrs:=hrs.mono hG96
  replace hrow:=hrow.mono hG96
  refine A_moreS hs hle hG96 (List.Sublist.refl _)<|Xa 9 rfl (S_append hs.f4 underlying94 TI4 rfl dC rfl rfl (hl96) (one1 rfl) oM oM fun v9 _ hs =>Xa 10 rfl (S_y hs rfl (Yf 258 rfl<|Xn 11 rfl (S_st hs.f1 sizeOf94 rfl rfl (hs.f1.rowOne 1 rfl) (by rw [tabC_len hcl];omega) (cs':=(tabC cell bytes.length v6 v9)) (tabC_set3 hcl) fun _ hs =>Xe (Zk [1,3,4,5,12,14,15,16,17] rfl<|Wu 2 [] hs rfl<|Zy hs (Ya (s:=((i+1:Nat):Int)) rfl<|Wp 1 [] hs rfl ?_))))))
  have hs:=hs.f7.f7.f7.f4.f5.f5.f7.f7
  refine Zx [1,3,4,5,12,14,15,16,17] rfl ⟨fu1,i+1,st.l,_,_,_,Vs bl2 st.l.length capl2,v6,v9,_,hrest,hex.nd,hex.ok,hex.le,by simp [hnl],by simp [hacl],by simp [hvl],by omega,LRows.snoc hrs hrow,rfl,rfl,castH (hs.weak hs.le (Ghost.le.refl _) (List.sublist_append_left [_,_,_,_,_,_,_,_] _)) (by simp [boolV])⟩
 refine Wp 3 [0] hs rfl ?_
 have hfe:=exG_end oM hg
 subst hfe
 have hs:=hs.f3
 obtain ⟨_,hG_hfn,hfn,hs⟩:=hs.fixRow noM
 replace hrs:=hrs.mono hG_hfn
 have hs:=hs.f3
 obtain ⟨_,hG_hfa,hfa,hs⟩:=hs.fixRow noM
 replace hrs:=hrs.mono hG_hfa
 replace hfn:=hfn.mono hG_hfa
 obtain ⟨Fn,fn,rfl,_⟩:=id hfn
 obtain ⟨Fa,fa,rfl,_⟩:=id hfa
 refine Wu 2 [] hs rfl<|Zy hs (Yk 2 rfl (tabC_len hcl)<|O_n (S_stW hs.f5 sizeOf276 rfl rfl (vs:=_) Z10 Z10 (tabC_one rfl rfl) fun _ hs =>Wp 2 [0] hs rfl<|T_ret ?_))
 have hr:=hs
 refine Rt_fin (vs:=[_,_]) results246 rfl ⟨ResOk_blk 0 hr isAgg276 sizeOf276 rfl (cs:=_) rfl Z10,rfl,trivial⟩ ?_
 try dsimp only [tup]
 exact ⟨_,[],hs.done,rfl,_,rfl,_,_,rfl,hcl,LRows.fin hfn rfl hrs,hfa⟩
theorem PL286:places prog 286=some [(0,1),(1,1),(2,1)]:=by kernel_rfl
def BlkAt (G:Ghost) (b:Nat) (cs:List Value):Prop:=∀ (i:Nat) (v:Value),cs[i]?=some v→gcell G ⟨b,i,none⟩=some v
theorem BlkAt.mono {G G':Ghost} (h:G.le G') {b:Nat} {cs:List Value} (hc:BlkAt G b cs):BlkAt G' b cs:=fun i v hv=>gcell_mono h (hc i v hv)
theorem BlkAt.whole {G:Ghost} {b:Nat} {cs:List Value} (hc:BlkAt G b cs):∀ (j:Nat) (u:Value),cs[j]?=some u→gcell G ((⟨b,0,none⟩:Addr).add j)=some u:=fun j u hj=>by
  have h:=hc j u hj
  have h2:(⟨b,0,none⟩:Addr).add j=⟨b,j,none⟩:=by
    unfold Addr.add;split
    · next h=>rw [h]
    · simp
  rw [h2];exact h
def TbAt (G:Ghost) (b:Nat) (t:Tb):Prop:=∃ vn va,BlkAt G b (tabC t.cell t.cells vn va)∧t.cell.length=256∧LN G vn t.next∧Bools G va t.acc
theorem TbAt.mono {G G':Ghost} (h:G.le G') {b:Nat} {t:Tb} (ht:TbAt G b t):TbAt G' b t:=by
  obtain ⟨vn,va,h1,h2,h3,h4⟩:=ht
  exact ⟨vn,va,h1.mono h,h2,h3.mono h,h4.mono h⟩
def starN (x:Tb) (a:Cs) (c:Nat):Cs:=⟨0,0,if someF x (targF x a.s c)=true then or64 (targF x a.s c) 1 else targF x a.s c⟩
def starA (x:Tb) (a:Cs):Bool:=decide (a.p=1) || someF x a.s
theorem inter_wf {a b:List Nat} (ha:a.length=4) (hb:b.length=4):(interF a b).length=4∧∀ w∈interF a b,w<W64:=by
  refine ⟨interF_len ha hb,fun w hw=>?_⟩
  unfold interF at hw
  obtain ⟨i,hi,rfl⟩:=List.mem_iff_getElem.1 hw
  rw [List.getElem_zipWith];exact and64_lt _ _
theorem not_wf {a:List Nat} (ha:a.length=4):(notF a).length=4∧∀ w∈notF a,w<W64:=by
  refine ⟨notF_len ha,fun w hw=>?_⟩
  unfold notF at hw
  obtain ⟨i,hi,rfl⟩:=List.mem_iff_getElem.1 hw
  rw [List.getElem_zipWith];exact xor64_lt _ _
def rowOk (d:Dfa) (r:List Nat):Bool:=decide (r.length=d.cls.length) && r.all fun x=>decide (x<d.next.length)
theorem validD_iff (d:Dfa):validD d=true↔1≤d.next.length∧d.next.length≤64∧d.acc.length=d.next.length∧1≤d.cls.length∧d.cls.length≤256∧clsOk d.cls [0,0,0,0]=true∧d.next.all (rowOk d)=true:=by
  unfold validD rowOk
  simp only [Bool.and_eq_true,decide_eq_true_eq]
theorem validD_no {d:Dfa} (h:¬ (1≤d.next.length∧d.next.length≤64∧d.acc.length=d.next.length∧1≤d.cls.length∧d.cls.length≤256∧clsOk d.cls [0,0,0,0]=true∧d.next.all (rowOk d)=true)):validD d=false:=by
  rw [Bool.eq_false_iff];intro hv;exact h ((validD_iff d).1 hv)
theorem clsOk_step {l:List (List Nat)} {k:Nat} {seen:List Nat} (h:k<l.length):clsOk (l.drop k) seen=(!(decide (l[k]=[0,0,0,0])) && (decide (interF seen l[k]=[0,0,0,0]) && clsOk (l.drop (k+1)) (unionF seen l[k]))):=by
  rw [List.drop_eq_getElem_cons h,clsOk]
theorem clsOk_end {l:List (List Nat)} {seen:List Nat}:clsOk (l.drop l.length) seen=decide (notF seen=[0,0,0,0]):=by rw [List.drop_length,clsOk]
theorem all_no {α:Type} {p:α→Bool} {l:List α} {k:Nat} (h:k<l.length) (hp:p l[k]=false):l.all p=false:=by
  rw [Bool.eq_false_iff];intro ha
  have:=List.all_eq_true.1 ha _ (List.getElem_mem h)
  rw [hp] at this;cases this
theorem all_step {α:Type} {p:α→Bool} {l:List α} {k:Nat} (h:k<l.length) (ha:(l.take k).all p=true) (hp:p l[k]=true):(l.take (k+1)).all p=true:=by
  rw [List.take_add_one,List.getElem?_eq_getElem h,List.all_append,ha];simp [hp]
theorem aval_ok {G:Ghost} {v:Value} {d:Dfa} (hd:DfR G v d) :
  FnOk prog 240 [v] G [] fun r _ H'=>H'=[]∧r=.bool (validD d):=by
 obtain ⟨vc,vn,va,rfl,hC,hN,hA⟩:=hd
 obtain ⟨Ac,cc,rfl⟩:=LstR.slice hC
 obtain ⟨An,cn,rfl⟩:=LstR.slice hN
 obtain ⟨Aa,ca,rfl,_⟩:=id hA
 refine FnOk.of_T [(0,_)] func240 rfl ntmps240 sM rfl fun w0 hs=>?_
 have hC0:=hC
 have hN0:=hN
 refine Wt 2 [] hs rfl<|O_s (Sb hs rfl fun b1 _ hs=>Wp 13 [0,1,0,0] hs rfl<|Zy hs (Yc rfl (fun h15=>?_) fun h15=>?_))
 ·
  refine Wp 29 [3,1,3,38,0] hs rfl<|T_ret<|Zz results240 rfl ?_
  exact ⟨_,[],hs.done,rfl,congrArg Value.bool (validD_no oM).symm⟩
 refine Wp 2 [] hs rfl<|Zg hs rfl (Yc rfl (fun h18=>?_) fun h18=>?_)
 ·
  refine Wp 26 [3,1,3,38,0] hs rfl<|T_ret<|Zz results240 rfl ?_
  exact ⟨_,[],hs.done,rfl,congrArg Value.bool (validD_no oM).symm⟩
 refine Wp 6 [2,0] hs rfl<|Zg hs rfl (Yc rfl (fun h25=>?_) fun h25=>?_)
 ·
  refine Wp 19 [3,1,3,38,0] hs rfl<|T_ret<|Zz results240 rfl ?_
  exact ⟨_,[],hs.done,rfl,congrArg Value.bool (validD_no oM).symm⟩
 refine Wp 5 [0,0] hs rfl<|Zg hs rfl (Yc rfl (fun h31=>?_) fun h31=>?_)
 ·
  refine Wp 13 [3,1,3,38,0] hs rfl<|T_ret<|Zz results240 rfl ?_
  exact ⟨_,[],hs.done,rfl,congrArg Value.bool (validD_no oM).symm⟩
 refine Wp 5 [0,0] hs rfl<|Zg hs rfl (Yc rfl (fun h37=>?_) fun h37=>?_)
 ·
  refine Wp 7 [3,1,3,38,0] hs rfl<|T_ret<|Zz results240 rfl ?_
  exact ⟨_,[],hs.done,rfl,congrArg Value.bool (validD_no oM).symm⟩
 refine Wp 6 [3,1,3,38] hs rfl<|O_s (S_alloc hs zeroValue104 (cs:=(List.map u64V [0,0,0,0])) rfl fun b4 _ hs =>Wp 9 [0,0,1,0] hs rfl ?_)
 have hs:=hs.f1.f1
 refine Zl [1,3,4,40,41,42] (fun m E w=>∃ (k:Nat) (seen:List Nat) (G2:Ghost),k≤d.cls.length∧clsOk d.cls [0,0,0,0]=clsOk (d.cls.drop k) seen∧seen.length=4∧(∀ w∈seen,w<W64)∧m=d.cls.length-k∧E=⟨[],[(1,Vp b1),(3,Vi ((d.next.length:Nat):Int)),(4,Vp b4),(40,.slice Ac d.cls.length cc),(41,Vi ((d.cls.length:Nat):Int)),(42,Vi (k:Int))]⟩∧St ⟨w0,G,feet []⟩ G2 [.blk b4 104 (List.map u64V seen),.blk b1 226 [.slice Ac d.cls.length cc,.slice An d.next.length cn,.slice Aa d.acc.length ca]] w) rfl (⟨0,[0,0,0,0],_,by omega,rfl,rfl,by decide,rfl,rfl,hs⟩) fun m E w hI=>?_
 obtain ⟨k,seen,G2,hk,hcs,hs4,hs64,rfl,rfl,hs⟩:=hI
 have hC:=hC0.mono hs.le
 have hN:=hN0.mono hs.le
 refine Wt 2 [] hs rfl<|Zy hs (Yc rfl (fun h43=>?_) fun h43=>?_)
 ·
  refine Wp 8 [0] hs rfl<|Zy hs (Y_idxS hC k underlying224 sizeOf104 rfl rfl rfl oM fun p44 c44 hp44 hc44 hR44=>?_)
  obtain ⟨c,hce⟩:∃ c,c=d.cls[k]'oM:=⟨_,rfl⟩
  rw [← hce] at hR44
  obtain ⟨rfl,hc4,hc64⟩:=hR44
  refine Zy hs (Y_ldAG (vs:=List.map u64V c) isAgg104 sizeOf104 rfl hp44 hc44<|O_s (S_alloc hs zeroValue104 (cs:=(List.map u64V [0,0,0,0])) rfl fun b6 _ hs =>O_n (Sw hs rfl (vs:=(List.map u64V c)) Z16 Z16 (u64_all _) fun _ hs=>Wp 4 [0] hs rfl<|Zy hs (Yk 0 rfl Z16<|Zy hs (Y_buildA underlying104 sizeOf102 zeroValue104 rfl rfl (cs:=[_,_,_,_]) rfl<|Zy hs (Y_eqlWS (a:=c) (b:=[0,0,0,0]) underlying104 sizeOf102 isAgg102 underlying102 rfl rfl rfl (hc4) rfl (hc64) dC (fun h48=>?_) (fun h48=>?_)))))))
  ·
   refine Wp 13 [0,0] hs rfl<|T_ret<|Zz results240 rfl ?_
   exact ⟨_,[],hs.done,rfl,congrArg Value.bool (validD_no (by rw [hcs,clsOk_step oM,← hce];simp_all)).symm⟩
  refine Wp 1 [] hs rfl<|Zg hs rfl (Yk 1 rfl Z16<|Zg hs rfl (Yk 0 rfl Z16<|O_yes 49 rfl rfl (Sc (inter_ok hs4 hc4) hs rfl fun v1 G' H' _ hR hG52 hs=>?_)))
  obtain ⟨rfl,rfl⟩:=hR
  replace hs:=hs.n rfl
  refine Zg hs rfl (Y_buildA underlying104 sizeOf102 zeroValue104 rfl rfl (cs:=[_,_,_,_]) rfl<|Zg hs rfl (Y_neqWS (a:=(interF seen c)) (b:=[0,0,0,0]) underlying104 sizeOf102 isAgg102 underlying102 rfl rfl rfl (interF_len hs4 hc4) rfl ((inter_wf hs4 hc4).2) dC (fun h54=>?_) (fun h54=>?_)))
  ·
   refine Wp 7 [0,0] hs rfl<|T_ret<|Zz results240 rfl ?_
   exact ⟨_,[],hs.done,rfl,congrArg Value.bool (validD_no (by rw [hcs,clsOk_step oM,← hce];simp_all)).symm⟩
  refine Wp 5 [0] hs rfl<|Zy hs (Yk 1 rfl Z16<|Zy hs (Yk 0 rfl Z16<|O_s (Sc (union_ok hs4 hc4) hs rfl fun v2 G' H' _ hR hG58 hs=>?_)))
  obtain ⟨rfl,rfl⟩:=hR
  replace hs:=hs.n rfl
  refine O_n (Sw hs.f1 rfl (vs:=(List.map u64V (unionF seen c))) Z16 Z16 (u64_all _) fun _ hs=>Wp 2 [0] hs rfl<|Zy hs (Ya (s:=((k+1:Nat):Int)) rfl<|Wp 1 [] hs rfl ?_))
  have hs:=hs.f2.f1
  refine Zx [1,3,4,40,41,42] rfl ⟨k+1,unionF seen c,_,by omega,by rw [hcs,clsOk_step oM,← hce];simp_all,unionF_len hs4 hc4,(union_wf hs4 hc4).2,rfl,rfl,hs.weak hs.le (Ghost.le.refl _) (List.sublist_append_left [_,_] _)⟩
 refine Wp 4 [0] hs rfl<|Wu 3 [] hs rfl<|Zy hs (Yk 0 rfl Z16<|O_s (Sc (not_ok hs4) hs rfl fun v3 G' H' _ hR hG61 hs=>?_))
 obtain ⟨rfl,rfl⟩:=hR
 replace hs:=hs.n rfl
 replace hC:=hC.mono hG61
 replace hN:=hN.mono hG61
 refine Zy hs (Y_buildA underlying104 sizeOf102 zeroValue104 rfl rfl (cs:=[_,_,_,_]) rfl<|Zy hs (Y_neqWS (a:=(notF seen)) (b:=[0,0,0,0]) underlying104 sizeOf102 isAgg102 underlying102 rfl rfl rfl (notF_len hs4) rfl ((not_wf hs4).2) dC (fun h63=>?_) (fun h63=>?_)))
 ·
  refine Wp 6 [0,0] hs rfl<|T_ret<|Zz results240 rfl ?_
  exact ⟨_,[],hs.done,rfl,congrArg Value.bool (validD_no (by rw [hcs,show k=d.cls.length by omega,clsOk_end];simp_all)).symm⟩
 refine Wp 11 [0,1,1,0] hs rfl ?_
 have hs:=hs.f1
 have hcok:clsOk d.cls [0,0,0,0]=true:=by rw [hcs,show k=d.cls.length by omega,clsOk_end];simp_all
 refine Zl [1,3,65,66,67] (fun m E w=>∃ (k:Nat) (G2:Ghost),k≤d.next.length∧(d.next.take k).all (rowOk d)=true∧m=d.next.length-k∧E=⟨[],[(1,Vp b1),(3,Vi ((d.next.length:Nat):Int)),(65,.slice An d.next.length cn),(66,Vi ((d.next.length:Nat):Int)),(67,Vi (k:Int))]⟩∧St ⟨w0,G,feet []⟩ G2 [.blk b1 226 [.slice Ac d.cls.length cc,.slice An d.next.length cn,.slice Aa d.acc.length ca]] w) rfl (⟨0,_,by omega,by simp,rfl,rfl,hs.weak hs.le (Ghost.le.refl _) (List.sublist_append_left [_] _)⟩) fun m E w hI=>?_
 obtain ⟨k,G2,hk,hra,rfl,rfl,hs⟩:=hI
 have hC:=hC0.mono hs.le
 have hN:=hN0.mono hs.le
 refine Wt 2 [] hs rfl<|Zy hs (Yc rfl (fun h68=>?_) fun h68=>?_)
 ·
  refine Wp 8 [0] hs rfl<|Zy hs (Y_idxS hN k underlying36 sizeOf45 rfl rfl rfl oM fun p69 c69 hp69 hc69 hR69=>?_)
  obtain ⟨rr,herr⟩:∃ r,r=d.next[k]'oM:=⟨_,rfl⟩
  rw [← herr] at hR69
  obtain ⟨u69,rfl,hrr⟩:=hR69
  obtain ⟨A69,c69,rfl,_⟩:=id hrr
  refine Zy hs (Yg rfl (hp69 0 (.slice A69 rr.length c69) rfl)<|Wp 10 [0,0,0] hs rfl<|Zy hs (Yc rfl (fun h76=>?_) fun h76=>?_))
  ·
   refine Wp 6 [0,0] hs rfl<|T_ret<|Zz results240 rfl ?_
   exact ⟨_,[],hs.done,rfl,congrArg Value.bool (validD_no (by rw [all_no (k:=k) oM (show rowOk d _=false from by rw [← herr];unfold rowOk;rw [decide_eq_false oM];rfl)];simp)).symm⟩
  refine Wp 9 [0,0] hs rfl<|Zl [1,3,65,66,67,77,78,79] (fun m E w=>∃ (j:Nat) (G2:Ghost),j≤rr.length∧(rr.take j).all (fun x=>decide (x<d.next.length))=true∧Nats G2 (.slice A69 rr.length c69) rr∧m=rr.length-j∧E=⟨[],[(1,Vp b1),(3,Vi ((d.next.length:Nat):Int)),(65,.slice An d.next.length cn),(66,Vi ((d.next.length:Nat):Int)),(67,Vi (k:Int)),(77,.slice A69 rr.length c69),(78,Vi ((rr.length:Nat):Int)),(79,Vi (j:Int))]⟩∧St ⟨w0,G,feet []⟩ G2 [.blk b1 226 [.slice Ac d.cls.length cc,.slice An d.next.length cn,.slice Aa d.acc.length ca]] w) rfl (⟨0,_,by omega,by simp,hrr,rfl,rfl,hs⟩) fun m E w hI=>?_
  obtain ⟨j,G2,hj,hja,hrr,rfl,rfl,hs⟩:=hI
  have hC:=hC0.mono hs.le
  have hN:=hN0.mono hs.le
  refine Wt 2 [] hs rfl<|Zy hs (Yc rfl (fun h80=>?_) fun h80=>?_)
  ·
   refine Wp 8 [0] hs rfl<|Zy hs (Y_idxN hrr j underlying45 sizeOf3 rfl rfl rfl oM fun p81 hp81=>?_)
   obtain ⟨x,hxe⟩:∃ x,x=rr[j]'oM:=⟨_,rfl⟩
   rw [← hxe] at hp81
   refine Zy hs (Yg rfl (hp81)<|Wp 5 [0] hs rfl<|Zy hs (Y_cmpF rfl rfl rfl oM<|Wp 3 [] hs rfl<|Zg hs rfl (Yc rfl (fun h88=>?_) fun h88=>?_)))
   ·
    refine Wp 7 [0,0] hs rfl<|T_ret<|Zz results240 rfl ?_
    exact ⟨_,[],hs.done,rfl,congrArg Value.bool (validD_no (by rw [all_no (k:=k) oM (show rowOk d _=false from by rw [← herr];unfold rowOk;rw [all_no (p:=fun x=>decide (x<d.next.length)) (l:=rr) (k:=j) oM (decide_eq_false oM),Bool.and_false])];simp)).symm⟩
   refine Wp 5 [0] hs rfl<|Zy hs (Ya (s:=((j+1:Nat):Int)) rfl<|Wp 1 [] hs rfl<|Zx [1,3,65,66,67,77,78,79] rfl ⟨j+1,_,by omega,all_step oM hja (by rw [← hxe];exact decide_eq_true oM),hrr,rfl,rfl,hs⟩)
  refine Wp 4 [0] hs rfl ?_
  refine Zr<|Zy hs (Ya (s:=((k+1:Nat):Int)) rfl<|Wp 1 [] hs rfl ?_)
  have hrk:rowOk d rr=true:=by unfold rowOk;rw [show j=rr.length by omega,List.take_length] at hja;rw [hja,decide_eq_true oM];rfl
  refine Zx [1,3,65,66,67] rfl ⟨k+1,_,by omega,all_step oM hra (by rw [← herr];exact hrk),rfl,rfl,hs⟩
 refine Wp 4 [0] hs rfl<|Wu 4 [0] hs rfl<|T_ret<|Zz results240 rfl ?_
 exact ⟨_,[],hs.done,rfl,congrArg Value.bool ((validD_iff d).2 ⟨by omega,by omega,by omega,by omega,by omega,hcok,by rw [show k=d.next.length by omega,List.take_length] at hra;exact hra⟩).symm⟩
theorem star2_ok {G:Ghost} {bx:Nat} {t:Tb} {a:Cs} (ht:TbAt G bx t) (h64:t.acc.length≤64) :
  FnOk prog 284 [.agg #[Vi (a.p:Int),Vi (a.q:Int),.int .u64 (a.s:Int)],Vp bx] G [] fun r _ H'=>H'=[]∧r=.bool (starA t a):=by
 obtain ⟨vn,va,hB,hcl,hN,hA⟩:=ht
 obtain ⟨An,cn,rfl⟩:=LstR.slice hN
 obtain ⟨Aa,ca,rfl,_⟩:=id hA
 refine FnOk.of_T [(0,_),(1,_)] func284 rfl ntmps284 sM rfl fun w0 hs=>?_
 have hB0:=hB
 have hN0:=hN
 have hA0:=hA
 refine Wt 2 [] hs rfl<|O_s (Sb hs rfl fun b2 _ hs=>Wp 6 [0,0,0] hs rfl<|Zy hs (Yc rfl (fun h6=>?_) fun h6=>?_))
 ·
  refine Wp 8 [0] hs rfl<|T_ret<|Zz results284 rfl ?_
  exact ⟨_,[],hs.done,rfl,congrArg Value.bool (by unfold starA;rw [decide_eq_true (show a.p=1 by omega)];rfl)⟩
 refine Wp 1 [] hs rfl<|Zg hs rfl (Y_ldAG (vs:=(tabC t.cell t.cells (.slice An t.next.length cn) (.slice Aa t.acc.length ca))) isAgg276 sizeOf276 rfl hB.whole (tabC_len hcl)<|Wp 2 [2,0] hs rfl<|O_yes 7 rfl rfl (Sc (some_ok (s:=a.s) ⟨_,_,rfl,hcl,hN,hA⟩ h64) hs rfl fun v1 G' H' _ hR hG11 hs=>?_))
 obtain ⟨rfl,rfl⟩:=hR
 replace hs:=hs.n rfl
 refine Wp 3 [0] hs rfl<|T_ret<|Zz results284 rfl ?_
 exact ⟨_,[],hs.done,rfl,congrArg Value.bool (by unfold starA;rw [decide_eq_false (show ¬ a.p=1 by omega)];rfl)⟩
theorem star1_ok {G:Ghost} {bx c:Nat} {t:Tb} {a:Cs} (ht:TbAt G bx t) (hok:t.ok) (h64:t.next.length≤64) (hc:c<256) :
  FnOk prog 283 [.agg #[Vi (a.p:Int),Vi (a.q:Int),.int .u64 (a.s:Int)],Vi (c:Int),Vp bx] G [] fun r _ H'=>H'=[]∧r=stK (starN t a c):=by
 obtain ⟨vn,va,hB,hcl,hN,hA⟩:=ht
 obtain ⟨An,cn,rfl⟩:=LstR.slice hN
 obtain ⟨Aa,ca,rfl,_⟩:=id hA
 have hal:=hok.2.2.1
 refine FnOk.of_T [(0,_),(1,_),(2,_)] func283 rfl ntmps283 sM rfl fun w0 hs=>?_
 have hB0:=hB
 have hN0:=hN
 have hA0:=hA
 refine Wt 2 [] hs rfl<|O_s (Sb hs rfl fun b3 _ hs=>O_s (Sa hs zeroValue286 rfl fun b5 _ hs=>Wp 3 [0] hs rfl<|Zy hs (Y_ldAG (vs:=(tabC t.cell t.cells (.slice An t.next.length cn) (.slice Aa t.acc.length ca))) isAgg276 sizeOf276 rfl hB.whole (tabC_len hcl)<|Wp 3 [2,1] hs rfl<|O_s (Sc (targ_ok (s:=a.s) ⟨_,_,rfl,hcl,hN,hA⟩ hok h64 hc) hs rfl fun v1 G' H' _ hR hG11 hs=>?_))))
 obtain ⟨rfl,rfl⟩:=hR
 replace hs:=hs.n rfl
 replace hB:=hB.mono hG11
 replace hN:=hN.mono hG11
 replace hA:=hA.mono hG11
 refine O_s (Sa hs zeroValue284 rfl fun b6 _ hs=>O_n (Sg hs rfl (rfl) fun _ hs=>Wp 4 [0] hs rfl<|Zy hs (Y_ldAG (vs:=(tabC t.cell t.cells (.slice An t.next.length cn) (.slice Aa t.acc.length ca))) isAgg276 sizeOf276 rfl hB.whole (tabC_len hcl)<|Wp 1 [0] hs rfl<|O_s (Sc (some_ok (s:=targF t a.s c) ⟨_,_,rfl,hcl,hN,hA⟩ oM) hs rfl fun v2 G' H' _ hR hG14 hs=>?_))))
 obtain ⟨rfl,rfl⟩:=hR
 replace hs:=hs.n rfl
 refine Wp 1 [0] hs rfl<|T_condS rfl (fun h14=>?_) (fun h14=>?_)
 ·
  refine Zr<|Zy hs (Y_idxArr 0 underlying284 sizeOf102 rfl rfl rfl dC (m:=0) rfl<|Wp 1 [0] hs rfl<|Zy hs (Y_or64 (b:=1) rfl rfl<|Zy hs (Y_idxArr 0 underlying284 sizeOf102 rfl rfl rfl dC (m:=0) rfl<|O_n (Sd hs rfl rfl fun _ hs=>Wp 4 [0,0] hs rfl<|Zy hs (Y_build zeroValue286 rfl PL286 rfl (cs:=[_,_,_]) rfl<|O_n (Sg hs.f1 rfl (rfl) fun _ hs=>Wp 1 [0] hs rfl<|T_ret<|Zz results283 (Rb 0 hs rfl rF) ?_))))))
  exact ⟨_,[],hs.done,rfl,by unfold starN;rw [if_pos h14];rfl⟩
 refine Wu 4 [0] hs rfl<|Zy hs (Y_build zeroValue286 rfl PL286 rfl (cs:=[_,_,_]) rfl<|O_n (Sg hs.f1 rfl (rfl) fun _ hs=>Wp 1 [0] hs rfl<|T_ret<|Zz results283 (Rb 0 hs rfl rF) ?_))
 exact ⟨_,[],hs.done,rfl,by unfold starN;rw [if_neg (by rw [h14];simp)];rfl⟩
theorem aval_t {G:Ghost} {v:Value} {d:Dfa} (hd:DfR G v d) (hv:validD d=true) :
    FnOk prog 240 [v] G [] fun r _ H'=>H'=[]∧r=.bool true:=hv▸aval_ok hd
theorem tabF_len (d:Dfa):(tabF d).cell.length=256:=by rw [tabF_eq];exact celG_len _ _
theorem star_ok {G:Ghost} {v:Value} {d D1 D2:Dfa} {RN:List (List Nat)×List Bool} (hd:DfR G v d) (hv:validD d=true) (hok0:(tabF d).ok) (hD:canonF (tabF d)=some D1) (hc1:D1.cls.length≤256) (hok1:(tabF D1).ok) (h64:(tabF D1).next.length≤64) (hT:Tab G)
  (hex:exG (jointF (tabF D1) (tabF D1)).bytes (starN (tabF D1)) (starA (tabF D1)) 4096 4097 0 [⟨1,0,1⟩] [] []=some (some RN)) (hokR:Tb.ok ⟨(jointF (tabF D1) (tabF D1)).cell,(jointF (tabF D1) (tabF D1)).bytes.length,RN.1,RN.2⟩) (hD2:canonF ⟨(jointF (tabF D1) (tabF D1)).cell,(jointF (tabF D1) (tabF D1)).bytes.length,RN.1,RN.2⟩=some D2) (hn2:D2.next.length≤64) :
  FnOk prog 254 [v] G [] fun r G' H'=>H'=[]∧∃ vd,r=.tuple #[vd,Vi 0]∧DfR G' vd D2:=by
 obtain ⟨vc,vn,va,rfl,hC,hN,hA⟩:=hd
 obtain ⟨Ac,cc,rfl⟩:=LstR.slice hC
 obtain ⟨An,cn,rfl⟩:=LstR.slice hN
 obtain ⟨Aa,ca,rfl,_⟩:=id hA
 have hcd:=((validD_iff d).1 hv).2.2.2.2.1
 have hJo:=jnK_ok (a:=tabF D1) (b:=tabF D1) 256
 rw [← jointF_eq] at hJo
 have hX256:=tabF_len D1
 obtain ⟨X0,hX0⟩:∃ X,X=tabF d:=⟨_,rfl⟩
 obtain ⟨X,hX⟩:∃ X,X=tabF D1:=⟨_,rfl⟩
 rw [← hX0] at hok0 hD
 rw [← hX] at hok1 h64 hex hokR hD2 hJo hX256
 obtain ⟨J,hJ⟩:∃ J,J=jointF X X:=⟨_,rfl⟩
 rw [← hJ] at hex hokR hD2 hJo
 have hJl:=hJo.cl
 have hJb:=hJo.le
 have hJ256:=hJo.bt
 have hXal:=hok1.2.2.1
 refine FnOk.of_T [(0,_)] func254 rfl ntmps254 sM rfl fun w0 hs=>?_
 have hC0:=hC
 have hN0:=hN
 have hA0:=hA
 have hT0:=hT
 refine Wt 2 [] hs rfl<|O_s (Sb hs rfl fun b1 _ hs=>O_s (Sa hs zeroValue226 rfl fun b2 _ hs=>Wp 6 [0,1] hs rfl<|O_s (Sc (aval_t ⟨_,_,_,rfl,hC,hN,hA⟩ hv) hs rfl fun v1 G' H' _ hR hG11 hs=>?_)))
 obtain ⟨rfl,rfl⟩:=hR
 replace hs:=hs.n rfl
 replace hC:=hC.mono hG11
 replace hN:=hN.mono hG11
 replace hA:=hA.mono hG11
 replace hT:=hT.mono hG11
 refine Wp 7 [0,1] hs rfl<|O_s (Sc (tabof_ok ⟨_,_,_,rfl,hC,hN,hA⟩ hcd hT) hs rfl fun v2 G' H' _ hR hG15 hs=>?_)
 obtain ⟨rfl,h15⟩:=hR
 replace hs:=hs.n rfl
 replace hT:=hT.mono hG15
 rw [← hX0] at h15
 obtain ⟨u15,w15,rfl,hc15,hn15,ha15⟩:=h15
 obtain ⟨N15,n15,rfl⟩:=LstR.slice hn15
 obtain ⟨A15,a15,rfl,_⟩:=id ha15
 refine O_s (Sc (canon_ok ⟨_,_,rfl,hc15,hn15,ha15⟩ hok0 hD) hs rfl fun v3 G' H' _ hR hG16 hs=>?_)
 obtain ⟨rfl,hq⟩:=hR
 replace hs:=hs.n rfl
 replace hT:=hT.mono hG16
 obtain ⟨qc,qn,qa,rfl,hqC,hqN,hqA⟩:=hq
 obtain ⟨Cq,cq,rfl⟩:=LstR.slice hqC
 obtain ⟨Nq,nq,rfl⟩:=LstR.slice hqN
 obtain ⟨Aq,aq,rfl,_⟩:=id hqA
 refine O_s (Sc (tabof_ok ⟨_,_,_,rfl,hqC,hqN,hqA⟩ hc1 hT) hs rfl fun v4 G' H' _ hR hG17 hs=>?_)
 obtain ⟨rfl,h17⟩:=hR
 replace hs:=hs.n rfl
 rw [← hX] at h17
 obtain ⟨u17,w17,rfl,hc17,hn17,ha17⟩:=h17
 obtain ⟨N17,n17,rfl⟩:=LstR.slice hn17
 obtain ⟨A17,a17,rfl,_⟩:=id ha17
 refine O_s (S_alloc hs zeroValue276 (cs:=(tabC (List.replicate 256 0) 0 (Vn) (Vn))) rfl fun b4 _ hs =>O_n (Sw hs rfl Z4 Z4 (tabC_one rfl rfl) fun _ hs=>Wp 3 [0] hs rfl<|Zy hs (Yk 0 rfl (tabC_len hX256)<|Zy hs (Yk 0 rfl (tabC_len hX256)<|O_s (Sc (joint_ok ⟨_,_,rfl,hX256,hn17,ha17⟩ ⟨_,_,rfl,hX256,hn17,ha17⟩) hs rfl fun v5 G' H' _ hR hG21 hs=>?_)))))
 obtain ⟨rfl,vj,rfl,hj⟩:=hR
 replace hs:=hs.n rfl
 replace hn17:=hn17.mono hG21
 replace ha17:=ha17.mono hG21
 rw [← hJ] at hj ⊢
 obtain ⟨Aj,cj,rfl,_⟩:=id hj
 refine Wp 3 [] hs rfl<|O_s (S_alloc hs zeroValue274 (cs:=(List.map i64n (List.replicate 256 0))) rfl fun b5 _ hs =>O_n (Sw hs rfl Z4 Z4 (i64n_one) fun _ hs=>Wp 2 [4,2,4,5,6] hs rfl ?_))
 have hs:=hs.f1
 obtain ⟨_,hGbhB,hB,hs⟩:=hs.fixBlk (fun k _=>noMb k)
 replace hn17:=hn17.mono hGbhB
 replace ha17:=ha17.mono hGbhB
 replace hj:=hj.mono hGbhB
 replace hB:BlkAt _ b4 _:=hB
 refine Wu 2 [] hs rfl<|Zy hs (Y_makeFunc (vs:=[_]) rfl<|Wp 4 [0] hs rfl<|Zy hs (Yk 0 rfl ((List.length_map _).trans hJl)<|Wp 1 [] hs rfl<|Zy hs (Y_buildA underlying284 sizeOf102 zeroValue284 rfl rfl (cs:=[_]) rfl<|Zy hs (Y_build zeroValue286 rfl PL286 rfl (cs:=[_,_,_]) rfl<|Wp 1 [] hs rfl<|Zy hs (Y_makeFunc (vs:=[_]) rfl<|O_s (Sc (expl_ok (start:=⟨1,0,1⟩) (nx:=starN X) (ac:=starA X) (ok:=fun _=>True) (most:=4096) (lb1:=[Vp b4]) (lb2:=[Vp b4]) hJl hj hJb dC dC trivial (fun _ _ _ _=>trivial) func283 rfl kR func284 rfl kR (fun G' s c _ hc hG=>star1_ok ⟨_,_,hB.mono hG,hX256,hn17.mono hG,ha17.mono hG⟩ hok1 h64 (hJ256 c hc)) (fun G' s _ hG=>star2_ok ⟨_,_,hB.mono hG,hX256,hn17.mono hG,ha17.mono hG⟩ oM) hex) hs rfl fun v6 G' H' _ hR hG32 hs=>?_))))))
 obtain ⟨rfl,vt,rfl,h32⟩:=hR
 replace hs:=hs.n rfl
 obtain ⟨u32,w32,rfl,hc32,hn32,ha32⟩:=h32
 obtain ⟨N32,n32,rfl⟩:=LstR.slice hn32
 obtain ⟨A32,a32,rfl,_⟩:=id ha32
 refine Wp 3 [] hs rfl<|O_s (S_alloc hs zeroValue276 (cs:=(tabC (List.replicate 256 0) 0 (Vn) (Vn))) rfl fun b8 _ hs =>O_n (Sw hs rfl Z4 Z4 (tabC_one rfl rfl) fun _ hs=>Wp 12 [0,0] hs rfl<|Zy hs (Yk 0 rfl (tabC_len hJl)<|O_s (Sc (limited_ok (t:=(⟨J.cell,J.bytes.length,RN.1,RN.2⟩:Tb)) ⟨_,_,rfl,hJl,hn32,ha32⟩ hokR hD2 hn2) hs rfl fun v7 G' H' _ hR hG39 hs=>?_))))
 obtain ⟨rfl,vd,rfl,hz⟩:=hR
 replace hs:=hs.n rfl
 obtain ⟨zc,zn,za,rfl,hzC,hzN,hzA⟩:=hz
 obtain ⟨Cz,cz,rfl⟩:=LstR.slice hzC
 obtain ⟨Nz,nz,rfl⟩:=LstR.slice hzN
 obtain ⟨Az,az,rfl,_⟩:=id hzA
 refine Wp 2 [] hs rfl<|O_n (Sg hs.f2 rfl (rfl) fun _ hs=>Wp 2 [2,2,3] hs rfl<|T_ret ?_)
 have hr:=hs
 refine Rt_fin (vs:=[_,_]) results254 rfl ⟨ResOk_blk 0 hr isAgg226 sizeOf226 rfl (cs:=[_,_,_]) rfl rfl,rfl,trivial⟩ ?_
 try dsimp only [tup]
 exact ⟨_,[],hs.done,rfl,_,rfl,_,_,_,rfl,hzC,hzN,hzA⟩
theorem co1_ok {G:Ghost} {bx:Nat} {t:Tb} {a:Cs} (ht:TbAt G bx t) (hp:a.p<t.acc.length) :
  FnOk prog 243 [.agg #[Vi (a.p:Int),Vi (a.q:Int),.int .u64 (a.s:Int)],Vp bx] G [] fun r _ H'=>H'=[]∧r=stK (enterF t a):=by
 obtain ⟨vn,va,hB,hcl,hN,hA⟩:=ht
 obtain ⟨An,cn,rfl⟩:=LstR.slice hN
 obtain ⟨Aa,ca,rfl,_⟩:=id hA
 refine FnOk.of_T [(0,_),(1,_)] func243 rfl ntmps243 sM rfl fun w0 hs=>?_
 have hB0:=hB
 have hN0:=hN
 have hA0:=hA
 refine Wt 2 [] hs rfl<|O_s (Sb hs rfl fun b2 _ hs=>O_s (Sa hs zeroValue286 rfl fun b3 _ hs=>Wp 5 [0,258] hs rfl<|Zy hs (Yg rfl (hB 258 _ (tabC_3 hcl))<|Wp 2 [0,1] hs rfl<|Zy hs (Y_idx1 a.p underlying94 sizeOf4 hA rfl rfl rfl (bool_row oM) fun p8 hp8 =>Zy hs (Yg rfl (hp8)<|Wp 1 [0] hs rfl<|T_condS rfl (fun h9=>?_) (fun h9=>?_))))))
 ·
  refine Wu 2 [2] hs rfl<|Zy hs (Y_idxArr 0 underlying284 sizeOf102 rfl rfl rfl dC (m:=2) rfl<|Wp 1 [1] hs rfl<|Zy hs (Y_or64 (b:=1) rfl rfl<|Wp 1 [2] hs rfl<|Zy hs (Y_idxArr 0 underlying284 sizeOf102 rfl rfl rfl dC (m:=2) rfl<|O_n (Sd hs.f1 rfl rfl fun _ hs=>Wp 4 [0,0] hs rfl<|O_n (Sg hs.f1 rfl (rfl) fun _ hs=>Wp 1 [0] hs rfl<|T_ret<|Zz results243 (Rb 0 hs rfl rF) ?_)))))
  exact ⟨_,[],hs.done,rfl,by unfold enterF;rw [getD_lt hp,if_pos h9];rfl⟩
 refine Wu 4 [1] hs rfl<|O_n (Sg hs rfl (rfl) fun _ hs=>Wp 1 [0] hs rfl<|T_ret<|Zz results243 (Rb 0 hs rfl rF) ?_)
 exact ⟨_,[],hs.done,rfl,by unfold enterF;rw [getD_lt hp,if_neg (by rw [h9];simp)];rfl⟩
def concN (x y:Tb) (a:Cs) (c:Nat):Cs:=enterF x ⟨x.to a.p (x.cell.getD c 0),0,targF y a.s c⟩
theorem co2_ok {G:Ghost} {be bx by' c:Nat} {t y:Tb} {a:Cs} (he:BlkAt G be [.func (.func 243) #[] #[Vp bx]]) (htx:TbAt G bx t) (hty:TbAt G by' y) (hok:t.ok) (hoky:y.ok) (h64:y.next.length≤64) (hc:c<256) (hp:a.p<t.next.length) :
  FnOk prog 244 [.agg #[Vi (a.p:Int),Vi (a.q:Int),.int .u64 (a.s:Int)],Vi (c:Int),Vp be,Vp bx,.pointer (some ⟨by',0,none⟩)] G [] fun r _ H'=>H'=[]∧r=stK (concN t y a c):=by
 obtain ⟨vn,va,hB,hcl,hN,hA⟩:=htx
 obtain ⟨An,cn,rfl⟩:=LstR.slice hN
 obtain ⟨Aa,ca,rfl,_⟩:=id hA
 obtain ⟨wn,wa,hB2,hcy,hN2,hA2⟩:=hty
 obtain ⟨Ny,ny,rfl⟩:=LstR.slice hN2
 obtain ⟨Ay,ay,rfl,_⟩:=id hA2
 have hal:=hok.2.2.1
 have hrows:=hok.2.2.2.2.1
 obtain ⟨cc,hce⟩:∃ z,z=t.cell.getD c 0:=⟨_,rfl⟩
 have hcc:cc<t.cells:=by rw [hce,getD_lt oM];exact hok.2.2.2.2.2 _ (List.getElem_mem _)
 refine FnOk.of_T [(0,_),(1,_),(2,_),(3,_),(4,_)] func244 rfl ntmps244 sM rfl fun w0 hs=>?_
 have hB0:=hB
 have hN0:=hN
 have hA0:=hA
 have hB20:=hB2
 have hN20:=hN2
 have hA20:=hA2
 have he0:=he
 refine Wt 2 [] hs rfl<|O_s (Sb hs rfl fun b5 _ hs=>O_s (Sa hs zeroValue286 rfl fun b7 _ hs=>Wp 2 [0] hs rfl<|T_drawS [0,1,2,3,4,5,6,7,8,9,10,11,12,13,14,15,16,17,18,19] hs kR ?_))
 replace hs:=hs.drew
 refine Xt 0 hs rfl (Yg rfl (he 0 _ rfl)<|Xr [1] [257] hs rfl<|Xt 2 hs rfl (Yg rfl (hB 257 _ (tabC_2 hcl))<|Xr [3,4] [0,1] hs rfl<|Xt 5 hs rfl (Y_idxS hN a.p underlying36 sizeOf45 rfl rfl rfl oM fun p13 c13 hp13 hc13 hR13=>?_)))
 obtain ⟨rr,herr⟩:∃ r,r=t.next[a.p]'oM:=⟨_,rfl⟩
 rw [← herr] at hR13
 have hlrr:rr.length=t.cells∧∀ x∈rr,x<t.next.length:=hrows rr Z29
 obtain ⟨u13,rfl,hrr⟩:=hR13
 obtain ⟨A13,c13,rfl,_⟩:=id hrr
 refine Xt 6 hs rfl (Yg rfl (hp13 0 (.slice A13 rr.length c13) rfl)<|Xr [7,8] [0] hs rfl<|Xt 9 hs rfl (Y_idxArr' c underlying274 sizeOf3 rfl rfl rfl oM<|Xt 10 hs rfl (Yg rfl (hB c (natV cc) (by rw [hce];exact tabC_c hcl hc))<|Xt 11 hs rfl (Y_idxN hrr cc underlying45 sizeOf3 rfl rfl rfl oM fun p19 hp19=>?_))))
 obtain ⟨x,hxe⟩:∃ x,x=rr[cc]'oM:=⟨_,rfl⟩
 rw [← hxe] at hp19
 have hxN:x<t.next.length:=hlrr.2 x Z33
 refine Xt 12 hs rfl (Yg rfl (hp19)<|Xt 13 hs rfl (Y_ldAG (vs:=(tabC y.cell y.cells (.slice Ny y.next.length ny) (.slice Ay y.acc.length ay))) isAgg276 sizeOf276 rfl hB2.whole (tabC_len hcy)<|Xr [14,15,16] [2,1] hs rfl ?_))
 have hle:=hs.le
 refine Xo 17 rfl (Sc (targ_ok (s:=a.s) ⟨_,_,rfl,hcy,hN2,hA2⟩ hoky h64 hc) hs rfl fun v1 G' H' _ hR hG25 hs=>?_)
 obtain ⟨rfl,rfl⟩:=hR
 replace hs:=hs.n rfl
 replace hB:=hB.mono hG25
 replace hN:=hN.mono hG25
 replace hA:=hA.mono hG25
 refine A_moreS hs hle hG25 (List.Sublist.refl _)<|Xt 18 hs rfl (Y_build zeroValue286 rfl PL286 rfl (cs:=[_,_,_]) rfl ?_)
 have hle:=hs.le
 refine Xo 19 rfl (S_callV (args:=[_]) (lb:=[_]) (H1:=[]) hs rfl rfl func243 rfl kR (co1_ok (a:=⟨x,0,targF y a.s c⟩) ⟨_,_,hB,hcl,hN,hA⟩ (by show x<_;omega)) fun v2 G' H' _ hR hG27 hs=>?_)
 obtain ⟨rfl,rfl⟩:=hR
 replace hs:=hs.n rfl
 refine A_moreS hs hle hG27 (List.Sublist.refl _)<|Xn 20 rfl (Sg hs rfl (rfl) fun _ hs=>Xe (Zk [7] rfl<|T_ret<|Zz results244 (Rb 0 hs rfl rF) ?_))
 have hxx:t.to a.p (t.cell.getD c 0)=x:=by rw [← hce,to_at oM (by rw [← herr];omega)];simp only [← herr];exact hxe.symm
 exact ⟨_,[],hs.done,rfl,by unfold concN;rw [hxx];rfl⟩
theorem co3_ok {G:Ghost} {bx:Nat} {t:Tb} {a:Cs} (ht:TbAt G bx t) (h64:t.acc.length≤64) :
  FnOk prog 247 [.agg #[Vi (a.p:Int),Vi (a.q:Int),.int .u64 (a.s:Int)],Vp bx] G [] fun r _ H'=>H'=[]∧r=.bool (someF t a.s):=by
 obtain ⟨vn,va,hB,hcl,hN,hA⟩:=ht
 obtain ⟨An,cn,rfl⟩:=LstR.slice hN
 obtain ⟨Aa,ca,rfl,_⟩:=id hA
 refine FnOk.of_T [(0,_),(1,_)] func247 rfl ntmps247 sM rfl fun w0 hs=>?_
 have hB0:=hB
 have hN0:=hN
 have hA0:=hA
 refine Wt 2 [] hs rfl<|O_s (Sb hs rfl fun b2 _ hs=>Wp 4 [0] hs rfl<|Zy hs (Y_ldAG (vs:=(tabC t.cell t.cells (.slice An t.next.length cn) (.slice Aa t.acc.length ca))) isAgg276 sizeOf276 rfl hB.whole (tabC_len hcl)<|Wp 2 [2,0] hs rfl<|O_s (Sc (some_ok (s:=a.s) ⟨_,_,rfl,hcl,hN,hA⟩ h64) hs rfl fun v1 G' H' _ hR hG7 hs=>?_)))
 obtain ⟨rfl,rfl⟩:=hR
 replace hs:=hs.n rfl
 refine Wp 2 [0] hs rfl<|T_ret<|Zz results247 rfl ?_
 exact ⟨_,[],hs.done,rfl,rfl⟩
theorem concat_ok {G:Ghost} {v1 v2:Value} {d1 d2 e1 e2 D2:Dfa} {RN:List (List Nat)×List Bool} (hd1:DfR G v1 d1) (hd2:DfR G v2 d2) (hv1:validD d1=true) (hv2:validD d2=true) (hok1:(tabF d1).ok) (hok2:(tabF d2).ok) (hD1:canonF (tabF d1)=some e1) (hD2:canonF (tabF d2)=some e2) (hc1:e1.cls.length≤256) (hc2:e2.cls.length≤256) (hok3:(tabF e1).ok) (hok4:(tabF e2).ok) (h64:(tabF e2).next.length≤64) (hT:Tab G)
  (hex:exG (jointF (tabF e1) (tabF e2)).bytes (concN (tabF e1) (tabF e2)) (fun a=>someF (tabF e2) a.s) 4096 4097 0 [(enterF (tabF e1) ⟨0,0,0⟩)] [] []=some (some RN)) (hen:(enterF (tabF e1) ⟨0,0,0⟩).p<(tabF e1).next.length) (hpn:∀ (a:Cs) (c:Nat),a.p<(tabF e1).next.length→c<256→(concN (tabF e1) (tabF e2) a c).p<(tabF e1).next.length) (hokR:Tb.ok ⟨(jointF (tabF e1) (tabF e2)).cell,(jointF (tabF e1) (tabF e2)).bytes.length,RN.1,RN.2⟩) (hDR:canonF ⟨(jointF (tabF e1) (tabF e2)).cell,(jointF (tabF e1) (tabF e2)).bytes.length,RN.1,RN.2⟩=some D2) (hn2:D2.next.length≤64) :
  FnOk prog 216 [v1,v2] G [] fun r G' H'=>H'=[]∧∃ vd,r=.tuple #[vd,Vi 0]∧DfR G' vd D2:=by
 obtain ⟨vc1,vn1,va1,rfl,hC1,hN1,hA1⟩:=hd1
 obtain ⟨Ac1,cc1,rfl⟩:=LstR.slice hC1
 obtain ⟨An1,cn1,rfl⟩:=LstR.slice hN1
 obtain ⟨Aa1,ca1,rfl,_⟩:=id hA1
 obtain ⟨vc2,vn2,va2,rfl,hC2,hN2,hA2⟩:=hd2
 obtain ⟨Ac2,cc2,rfl⟩:=LstR.slice hC2
 obtain ⟨An2,cn2,rfl⟩:=LstR.slice hN2
 obtain ⟨Aa2,ca2,rfl,_⟩:=id hA2
 have hcd1:=((validD_iff d1).1 hv1).2.2.2.2.1
 have hcd2:=((validD_iff d2).1 hv2).2.2.2.2.1
 have hJo:=jnK_ok (a:=tabF e1) (b:=tabF e2) 256
 rw [← jointF_eq] at hJo
 have hX3:=tabF_len e1
 have hX4:=tabF_len e2
 obtain ⟨X1,hX1e⟩:∃ X,X=tabF d1:=⟨_,rfl⟩
 obtain ⟨X2,hX2e⟩:∃ X,X=tabF d2:=⟨_,rfl⟩
 obtain ⟨X3,hX3e⟩:∃ X,X=tabF e1:=⟨_,rfl⟩
 obtain ⟨X4,hX4e⟩:∃ X,X=tabF e2:=⟨_,rfl⟩
 rw [← hX1e] at hok1 hD1
 rw [← hX2e] at hok2 hD2
 rw [← hX3e] at hok3 hex hen hpn hokR hDR hJo hX3
 rw [← hX4e] at hok4 h64 hex hpn hokR hDR hJo hX4
 obtain ⟨J,hJ⟩:∃ J,J=jointF X3 X4:=⟨_,rfl⟩
 rw [← hJ] at hex hokR hDR hJo
 have hJl:=hJo.cl
 have hJb:=hJo.le
 have hJ256:=hJo.bt
 have hal3:=hok3.2.2.1
 have hal4:=hok4.2.2.1
 have hn3:=hok3.1
 refine FnOk.of_T [(0,_),(1,_)] func216 rfl ntmps216 sM rfl fun w0 hs=>?_
 have hC10:=hC1
 have hN10:=hN1
 have hA10:=hA1
 have hC20:=hC2
 have hN20:=hN2
 have hA20:=hA2
 have hT0:=hT
 refine Wt 2 [] hs rfl<|O_s (Sb hs rfl fun b2 _ hs=>O_s (Sb hs rfl fun b3 _ hs=>O_s (Sa hs zeroValue226 rfl fun b4 _ hs=>Wp 6 [0,2] hs rfl<|O_s (Sc (aval_t ⟨_,_,_,rfl,hC1,hN1,hA1⟩ hv1) hs rfl fun v1 G' H' _ hR hG15 hs=>?_))))
 obtain ⟨rfl,rfl⟩:=hR
 replace hs:=hs.n rfl
 replace hC1:=hC1.mono hG15
 replace hN1:=hN1.mono hG15
 replace hA1:=hA1.mono hG15
 replace hC2:=hC2.mono hG15
 replace hN2:=hN2.mono hG15
 replace hA2:=hA2.mono hG15
 replace hT:=hT.mono hG15
 refine Wp 3 [1] hs rfl<|O_yes 17 rfl rfl (Sc (aval_t ⟨_,_,_,rfl,hC2,hN2,hA2⟩ hv2) hs rfl fun v2 G' H' _ hR hG19 hs=>?_)
 obtain ⟨rfl,rfl⟩:=hR
 replace hs:=hs.n rfl
 replace hC1:=hC1.mono hG19
 replace hN1:=hN1.mono hG19
 replace hA1:=hA1.mono hG19
 replace hC2:=hC2.mono hG19
 replace hN2:=hN2.mono hG19
 replace hA2:=hA2.mono hG19
 replace hT:=hT.mono hG19
 refine Wp 6 [0] hs rfl<|T_calm 2 [⟨0,23,fun G v=>v=.agg #[.slice Ac1 d1.cls.length cc1,.slice An1 d1.next.length cn1,.slice Aa1 d1.acc.length ca1],noRes⟩,⟨1,24,fun G v=>TbR G v X1,noRes⟩,⟨2,25,fun G v=>DfR G v e1,noRes⟩,⟨3,26,fun G v=>TbR G v X3,noRes⟩,⟨4,27,fun G v=>v=.agg #[.slice Ac2 d2.cls.length cc2,.slice An2 d2.next.length cn2,.slice Aa2 d2.acc.length ca2],noRes⟩,⟨5,28,fun G v=>TbR G v X2,noRes⟩,⟨6,29,fun G v=>DfR G v e2,noRes⟩,⟨7,30,fun G v=>TbR G v X4,noRes⟩,⟨8,6,fun G v=>IsPtr G v,ptrRes 276 (tabC (List.replicate 256 0) 0 (Vn) (Vn))⟩,⟨9,7,fun G v=>IsPtr G v,ptrRes 276 (tabC (List.replicate 256 0) 0 (Vn) (Vn))⟩] [(2,_),(3,_),(4,_)] hs ⟨rfl,rfl,rfl,trivial⟩ rfl kR kR (AllC.mem ⟨fun _ _ _ _ h=>h,fun _ _ _ hG h=>h.mono hG,fun _ _ _ hG h=>h.mono hG,fun _ _ _ hG h=>h.mono hG,fun _ _ _ _ h=>h,fun _ _ _ hG h=>h.mono hG,fun _ _ _ hG h=>h.mono hG,fun _ _ _ hG h=>h.mono hG,fun _ _ _ _ h=>h,fun _ _ _ _ h=>h,trivial⟩) (AllC.mem ⟨?_,?_,?_,?_,?_,?_,?_,?_,?_,?_,trivial⟩) ?_
 ·
  refine ⟨_,rfl,rfl,rfl,fun G1 Hx L1 w1 hG1 hs hL hd=>?_⟩
  have hC1:=hC1.mono hG1
  have hN1:=hN1.mono hG1
  have hA1:=hA1.mono hG1
  have hC2:=hC2.mono hG1
  have hN2:=hN2.mono hG1
  have hA2:=hA2.mono hG1
  have hT:=hT.mono hG1
  refine S_sub [(2,_)] ⟨hL.1,trivial⟩<|S_y hs rfl (Y_ldA 2 isAgg226 sizeOf226 rfl rfl (vs:=[_,_,_]) rfl rfl ?_)
  exact ⟨_,Ghost.le.refl _,rfl,hs⟩
 ·
  refine ⟨_,rfl,rfl,rfl,fun G1 Hx L1 w1 hG1 hs hL hd=>?_⟩
  have hC1:=hC1.mono hG1
  have hN1:=hN1.mono hG1
  have hA1:=hA1.mono hG1
  have hC2:=hC2.mono hG1
  have hN2:=hN2.mono hG1
  have hA2:=hA2.mono hG1
  have hT:=hT.mono hG1
  obtain ⟨u23,hv23,hR23⟩:=hd _ (List.mem_of_getElem? (i:=0) rfl) kR
  replace hR23:u23=.agg #[.slice Ac1 d1.cls.length cc1,.slice An1 d1.next.length cn1,.slice Aa1 d1.acc.length ca1]:=hR23
  subst hR23
  refine S_sub [(23,_)] ⟨hv23,trivial⟩<|S_call (H1:=[]) hs rfl func241 rfl kR (tabof_ok ⟨_,_,_,rfl,hC1,hN1,hA1⟩ hcd1 hT) fun v3 G' H' _ hR hG24 hs=>?_
  obtain ⟨rfl,h24⟩:=hR
  replace hs:St _ _ (_::_::_::Hx) _:=hs
  exact ⟨_,hG24,(by rw [hX1e];exact h24),hs⟩
 ·
  refine ⟨_,rfl,rfl,rfl,fun G1 Hx L1 w1 hG1 hs hL hd=>?_⟩
  have hC1:=hC1.mono hG1
  have hN1:=hN1.mono hG1
  have hA1:=hA1.mono hG1
  have hC2:=hC2.mono hG1
  have hN2:=hN2.mono hG1
  have hA2:=hA2.mono hG1
  have hT:=hT.mono hG1
  obtain ⟨u24,hv24,hR24⟩:=hd _ (List.mem_of_getElem? (i:=1) rfl) kR
  replace hR24:TbR G1 u24 X1:=hR24
  obtain ⟨u24,w24,rfl,hc24,hn24,ha24⟩:=hR24
  obtain ⟨N24,n24,rfl⟩:=LstR.slice hn24
  obtain ⟨A24,a24,rfl,_⟩:=id ha24
  refine S_sub [(24,_)] ⟨hv24,trivial⟩<|S_call (H1:=[]) hs rfl func236 rfl kR (canon_ok ⟨_,_,rfl,hc24,hn24,ha24⟩ hok1 hD1) fun v4 G' H' _ hR hG25 hs=>?_
  obtain ⟨rfl,h25⟩:=hR
  replace hs:St _ _ (_::_::_::Hx) _:=hs
  exact ⟨_,hG25,h25,hs⟩
 ·
  refine ⟨_,rfl,rfl,rfl,fun G1 Hx L1 w1 hG1 hs hL hd=>?_⟩
  have hC1:=hC1.mono hG1
  have hN1:=hN1.mono hG1
  have hA1:=hA1.mono hG1
  have hC2:=hC2.mono hG1
  have hN2:=hN2.mono hG1
  have hA2:=hA2.mono hG1
  have hT:=hT.mono hG1
  obtain ⟨u25,hv25,hR25⟩:=hd _ (List.mem_of_getElem? (i:=2) rfl) kR
  replace hR25:DfR G1 u25 e1:=hR25
  have hq:=hR25
  obtain ⟨qc,qn,qa,rfl,hqC,hqN,hqA⟩:=hq
  obtain ⟨Cq,cq,rfl⟩:=LstR.slice hqC
  obtain ⟨Nq,nq,rfl⟩:=LstR.slice hqN
  obtain ⟨Aq,aq,rfl,_⟩:=id hqA
  refine S_sub [(25,_)] ⟨hv25,trivial⟩<|S_call (H1:=[]) hs rfl func241 rfl kR (tabof_ok ⟨_,_,_,rfl,hqC,hqN,hqA⟩ hc1 hT) fun v5 G' H' _ hR hG26 hs=>?_
  obtain ⟨rfl,h26⟩:=hR
  replace hs:St _ _ (_::_::_::Hx) _:=hs
  exact ⟨_,hG26,(by rw [hX3e];exact h26),hs⟩
 ·
  refine ⟨_,rfl,rfl,rfl,fun G1 Hx L1 w1 hG1 hs hL hd=>?_⟩
  have hC1:=hC1.mono hG1
  have hN1:=hN1.mono hG1
  have hA1:=hA1.mono hG1
  have hC2:=hC2.mono hG1
  have hN2:=hN2.mono hG1
  have hA2:=hA2.mono hG1
  have hT:=hT.mono hG1
  refine S_sub [(3,_)] ⟨hL.2.1,trivial⟩<|S_y hs rfl (Y_ldA 1 isAgg226 sizeOf226 rfl rfl (vs:=[_,_,_]) rfl rfl ?_)
  exact ⟨_,Ghost.le.refl _,rfl,hs⟩
 ·
  refine ⟨_,rfl,rfl,rfl,fun G1 Hx L1 w1 hG1 hs hL hd=>?_⟩
  have hC1:=hC1.mono hG1
  have hN1:=hN1.mono hG1
  have hA1:=hA1.mono hG1
  have hC2:=hC2.mono hG1
  have hN2:=hN2.mono hG1
  have hA2:=hA2.mono hG1
  have hT:=hT.mono hG1
  obtain ⟨u27,hv27,hR27⟩:=hd _ (List.mem_of_getElem? (i:=4) rfl) kR
  replace hR27:u27=.agg #[.slice Ac2 d2.cls.length cc2,.slice An2 d2.next.length cn2,.slice Aa2 d2.acc.length ca2]:=hR27
  subst hR27
  refine S_sub [(27,_)] ⟨hv27,trivial⟩<|S_call (H1:=[]) hs rfl func241 rfl kR (tabof_ok ⟨_,_,_,rfl,hC2,hN2,hA2⟩ hcd2 hT) fun v6 G' H' _ hR hG28 hs=>?_
  obtain ⟨rfl,h28⟩:=hR
  replace hs:St _ _ (_::_::_::Hx) _:=hs
  exact ⟨_,hG28,(by rw [hX2e];exact h28),hs⟩
 ·
  refine ⟨_,rfl,rfl,rfl,fun G1 Hx L1 w1 hG1 hs hL hd=>?_⟩
  have hC1:=hC1.mono hG1
  have hN1:=hN1.mono hG1
  have hA1:=hA1.mono hG1
  have hC2:=hC2.mono hG1
  have hN2:=hN2.mono hG1
  have hA2:=hA2.mono hG1
  have hT:=hT.mono hG1
  obtain ⟨u28,hv28,hR28⟩:=hd _ (List.mem_of_getElem? (i:=5) rfl) kR
  replace hR28:TbR G1 u28 X2:=hR28
  obtain ⟨u28,w28,rfl,hc28,hn28,ha28⟩:=hR28
  obtain ⟨N28,n28,rfl⟩:=LstR.slice hn28
  obtain ⟨A28,a28,rfl,_⟩:=id ha28
  refine S_sub [(28,_)] ⟨hv28,trivial⟩<|S_call (H1:=[]) hs rfl func236 rfl kR (canon_ok ⟨_,_,rfl,hc28,hn28,ha28⟩ hok2 hD2) fun v7 G' H' _ hR hG29 hs=>?_
  obtain ⟨rfl,h29⟩:=hR
  replace hs:St _ _ (_::_::_::Hx) _:=hs
  exact ⟨_,hG29,h29,hs⟩
 ·
  refine ⟨_,rfl,rfl,rfl,fun G1 Hx L1 w1 hG1 hs hL hd=>?_⟩
  have hC1:=hC1.mono hG1
  have hN1:=hN1.mono hG1
  have hA1:=hA1.mono hG1
  have hC2:=hC2.mono hG1
  have hN2:=hN2.mono hG1
  have hA2:=hA2.mono hG1
  have hT:=hT.mono hG1
  obtain ⟨u29,hv29,hR29⟩:=hd _ (List.mem_of_getElem? (i:=6) rfl) kR
  replace hR29:DfR G1 u29 e2:=hR29
  have hp:=hR29
  obtain ⟨pc,pn,pa,rfl,hpC,hpN,hpA⟩:=hp
  obtain ⟨Cp,cp,rfl⟩:=LstR.slice hpC
  obtain ⟨Np,np,rfl⟩:=LstR.slice hpN
  obtain ⟨Ap,ap,rfl,_⟩:=id hpA
  refine S_sub [(29,_)] ⟨hv29,trivial⟩<|S_call (H1:=[]) hs rfl func241 rfl kR (tabof_ok ⟨_,_,_,rfl,hpC,hpN,hpA⟩ hc2 hT) fun v8 G' H' _ hR hG30 hs=>?_
  obtain ⟨rfl,h30⟩:=hR
  replace hs:St _ _ (_::_::_::Hx) _:=hs
  exact ⟨_,hG30,(by rw [hX4e];exact h30),hs⟩
 ·
  refine ⟨_,rfl,rfl,rfl,fun G1 Hx L1 w1 hG1 hs hL hd=>?_⟩
  have hC1:=hC1.mono hG1
  have hN1:=hN1.mono hG1
  have hA1:=hA1.mono hG1
  have hC2:=hC2.mono hG1
  have hN2:=hN2.mono hG1
  have hA2:=hA2.mono hG1
  have hT:=hT.mono hG1
  refine S_sub [] trivial<|S_alloc hs zeroValue276 (cs:=(tabC (List.replicate 256 0) 0 (Vn) (Vn))) rfl fun b6 _ hs=>?_
  exact ⟨_,Ghost.le.refl _,⟨_,rfl⟩,hs⟩
 ·
  refine ⟨_,rfl,rfl,rfl,fun G1 Hx L1 w1 hG1 hs hL hd=>?_⟩
  have hC1:=hC1.mono hG1
  have hN1:=hN1.mono hG1
  have hA1:=hA1.mono hG1
  have hC2:=hC2.mono hG1
  have hN2:=hN2.mono hG1
  have hA2:=hA2.mono hG1
  have hT:=hT.mono hG1
  refine S_sub [] trivial<|S_alloc hs zeroValue276 (cs:=(tabC (List.replicate 256 0) 0 (Vn) (Vn))) rfl fun b7 _ hs=>?_
  exact ⟨_,Ghost.le.refl _,⟨_,rfl⟩,hs⟩
 intro G2 vals L2 w2 hG2 hs hL hv
 obtain ⟨hv26,hR26⟩:=hv _ (List.mem_of_getElem? (i:=3) rfl)
 replace hv26:eget L2 26=some (vals 3):=hv26
 replace hR26:TbR G2 (vals 3) X3:=hR26
 obtain ⟨hv30,hR30⟩:=hv _ (List.mem_of_getElem? (i:=7) rfl)
 replace hv30:eget L2 30=some (vals 7):=hv30
 replace hR30:TbR G2 (vals 7) X4:=hR30
 obtain ⟨hv6,hR6⟩:=hv _ (List.mem_of_getElem? (i:=8) rfl)
 replace hv6:eget L2 6=some (vals 8):=hv6
 replace hR6:IsPtr G2 (vals 8):=hR6
 obtain ⟨b6,hb6⟩:=hR6
 rw [hb6] at hv6
 obtain ⟨hv7,hR7⟩:=hv _ (List.mem_of_getElem? (i:=9) rfl)
 replace hv7:eget L2 7=some (vals 9):=hv7
 replace hR7:IsPtr G2 (vals 9):=hR7
 obtain ⟨b7,hb7⟩:=hR7
 rw [hb7] at hv7
 simp only [calmH,List.flatMap_cons,List.flatMap_nil,cond_true,noRes,ptrRes,rowRes,List.nil_append,List.append_nil,List.cons_append,List.singleton_append,hb6,hb7] at hs
 obtain ⟨u26,hu26⟩:∃ u,u=vals 3:=⟨_,rfl⟩
 rw [← hu26] at hv26 hR26
 clear hu26
 obtain ⟨u26,w26,rfl,hc26,hn26,ha26⟩:=hR26
 obtain ⟨N26,n26,rfl⟩:=LstR.slice hn26
 obtain ⟨A26,a26,rfl,_⟩:=id ha26
 obtain ⟨u30,hu30⟩:∃ u,u=vals 7:=⟨_,rfl⟩
 rw [← hu30] at hv30 hR30
 clear hu30
 obtain ⟨u30,w30,rfl,hc30,hn30,ha30⟩:=hR30
 obtain ⟨N30,n30,rfl⟩:=LstR.slice hn30
 obtain ⟨A30,a30,rfl,_⟩:=id ha30
 refine A_sub [(26,_),(30,_),(6,_),(7,_),(4,_)] ⟨hv26,hv30,hv6,hv7,hL.2.2.1,trivial⟩<|Xn 10 rfl (Sw hs.f3 rfl Z3 Z3 (tabC_one rfl rfl) fun _ hs=>Xn 11 rfl (Sw hs.f4 rfl Z3 Z3 (tabC_one rfl rfl) fun _ hs=>Xe (Zk [4,6,7] rfl<|Wt 2 [] hs rfl<|Zy hs (Yk 1 rfl (tabC_len hX3)<|Zy hs (Yk 0 rfl (tabC_len hX4)<|O_s (Sc (joint_ok ⟨_,_,rfl,hX3,hn26,ha26⟩ ⟨_,_,rfl,hX4,hn30,ha30⟩) hs rfl fun v9 G' H' _ hR hG34 hs=>?_))))))
 obtain ⟨rfl,vj,rfl,hj⟩:=hR
 replace hs:=hs.n rfl
 replace hn26:=hn26.mono hG34
 replace ha26:=ha26.mono hG34
 replace hn30:=hn30.mono hG34
 replace ha30:=ha30.mono hG34
 rw [← hJ] at hj ⊢
 obtain ⟨Aj,cj,rfl,_⟩:=id hj
 refine Wp 3 [] hs rfl<|O_s (S_alloc hs zeroValue274 (cs:=(List.map i64n (List.replicate 256 0))) rfl fun b8 _ hs =>O_n (Sw hs rfl Z3 Z3 (i64n_one) fun _ hs=>Wp 2 [0] hs rfl ?_))
 have hs:=hs.f2
 obtain ⟨_,hGbhB6,hB6,hs⟩:=hs.fixBlk (fun k _=>noMb k)
 replace hn26:=hn26.mono hGbhB6
 replace ha26:=ha26.mono hGbhB6
 replace hn30:=hn30.mono hGbhB6
 replace ha30:=ha30.mono hGbhB6
 replace hj:=hj.mono hGbhB6
 replace hB6:BlkAt _ b6 _:=hB6
 have hs:=hs.f1
 obtain ⟨_,hGbhB7,hB7,hs⟩:=hs.fixBlk (fun k _=>noMb k)
 replace hn26:=hn26.mono hGbhB7
 replace ha26:=ha26.mono hGbhB7
 replace hn30:=hn30.mono hGbhB7
 replace ha30:=ha30.mono hGbhB7
 replace hj:=hj.mono hGbhB7
 replace hB6:=hB6.mono hGbhB7
 replace hB7:BlkAt _ b7 _:=hB7
 refine Wu 2 [] hs rfl<|Zy hs (Y_makeFunc (vs:=[_]) rfl<|O_s (Sa hs zeroValue287 rfl fun b10 _ hs=>O_n (Sd hs rfl rfl fun _ hs=>Wp 1 [0] hs rfl ?_)))
 obtain ⟨_,hGbhE,hE,hs⟩:=hs.fixBlk (fun k _=>noMb k)
 replace hn26:=hn26.mono hGbhE
 replace ha26:=ha26.mono hGbhE
 replace hn30:=hn30.mono hGbhE
 replace ha30:=ha30.mono hGbhE
 replace hj:=hj.mono hGbhE
 replace hB6:=hB6.mono hGbhE
 replace hB7:=hB7.mono hGbhE
 replace hE:BlkAt _ b10 _:=hE
 refine Wu 2 [] hs rfl<|Zy hs (Y_makeFunc (vs:=[_,_,_]) rfl<|Wp 3 [0] hs rfl<|T_drawS [0,1,2,3,4,5,6,7,8,9,11] hs kR ?_)
 replace hs:=hs.drew
 refine Xt 0 hs rfl (Yk 0 rfl ((List.length_map _).trans hJl)<|Xr [1] [] hs rfl<|Xt 2 hs rfl (Yg rfl (hE 0 _ rfl)<|Xt 3 hs rfl (Y_build zeroValue286 rfl PL286 rfl (cs:=[_,_,_]) rfl<|Xr [5] [] hs rfl<|Xt 6 hs rfl (Y_makeFunc (vs:=[_]) rfl<|A_two 4 11 rfl rfl kR rfl rfl ?_ ?_))))
 ·
  have hle:=hs.le
  refine S_callV (args:=[_]) (lb:=[_]) (H1:=[]) hs rfl rfl func243 rfl kR (co1_ok (a:=⟨0,0,0⟩) ⟨_,_,hB6,hX3,hn26,ha26⟩ (by show 0<_;omega)) fun v10 G' H' _ hR hG44 hs=>?_
  obtain ⟨rfl,rfl⟩:=hR
  replace hs:=hs.n rfl
  replace hn26:=hn26.mono hG44
  replace ha26:=ha26.mono hG44
  replace hn30:=hn30.mono hG44
  replace ha30:=ha30.mono hG44
  replace hj:=hj.mono hG44
  replace hB6:=hB6.mono hG44
  replace hB7:=hB7.mono hG44
  replace hE:=hE.mono hG44
  refine A_moreS hs hle hG44 (List.Sublist.refl _)<|A_two 7 11 rfl rfl kR rfl rfl ?_ ?_
  ·
   have hle:=hs.le
   refine S_call (H1:=[]) hs rfl func246 rfl kR (expl_ok (start:=enterF X3 ⟨0,0,0⟩) (nx:=concN X3 X4) (ac:=fun a=>someF X4 a.s) (ok:=fun a=>a.p<X3.next.length) (most:=4096) (lb1:=[Vp b10,Vp b6,Vp b7]) (lb2:=[Vp b7]) hJl hj hJb dC dC hen (fun a c hc h=>hpn a c h (hJ256 c hc)) func244 rfl kR func247 rfl kR (fun G' s c ho hc hG=>co2_ok (hE.mono hG) ⟨_,_,hB6.mono hG,hX3,hn26.mono hG,ha26.mono hG⟩ ⟨_,_,hB7.mono hG,hX4,hn30.mono hG,ha30.mono hG⟩ hok3 hok4 h64 (hJ256 c hc) ho) (fun G' s _ hG=>co3_ok ⟨_,_,hB7.mono hG,hX4,hn30.mono hG,ha30.mono hG⟩ oM) hex) fun v11 G' H' _ hR hG47 hs=>?_
   obtain ⟨rfl,vt,rfl,h32⟩:=hR
   replace hs:=hs.n rfl
   obtain ⟨u32,w32,rfl,hc32,hn32,ha32⟩:=h32
   obtain ⟨N32,n32,rfl⟩:=LstR.slice hn32
   obtain ⟨A32,a32,rfl,_⟩:=id ha32
   refine A_moreS hs hle hG47 (List.Sublist.refl _)<|Xr [8] [] hs rfl<|A_pure 10 rfl kR rfl (Y_extract rfl rfl<|Xr [9] [] hs rfl ?_)
   have hle:=hs.le
   refine Xo 11 rfl (S_alloc hs zeroValue276 (cs:=(tabC (List.replicate 256 0) 0 (Vn) (Vn))) rfl fun b12 _ hs =>A_moreS hs hle (Ghost.le.refl _) (List.sublist_cons_self _ _)<|Xn 12 rfl (Sw hs rfl Z3 Z3 (tabC_one rfl rfl) fun _ hs=>Xa 13 rfl (S_y hs rfl (Yq rfl<|Xe (Zk [4,12,13] rfl<|Wu 10 [0] hs rfl<|Zy hs (Yk 0 rfl (tabC_len hJl)<|O_s (Sc (limited_ok (t:=(⟨J.cell,J.bytes.length,RN.1,RN.2⟩:Tb)) ⟨_,_,rfl,hJl,hn32,ha32⟩ hokR hDR hn2) hs rfl fun v12 G' H' _ hR hG54 hs=>?_)))))))
   obtain ⟨rfl,vd,rfl,hz⟩:=hR
   replace hs:=hs.n rfl
   obtain ⟨zc,zn,za,rfl,hzC,hzN,hzA⟩:=hz
   obtain ⟨Cz,cz,rfl⟩:=LstR.slice hzC
   obtain ⟨Nz,nz,rfl⟩:=LstR.slice hzN
   obtain ⟨Az,az,rfl,_⟩:=id hzA
   refine Wp 2 [] hs rfl<|O_n (Sg hs.f2 rfl (rfl) fun _ hs=>Wp 2 [0] hs rfl<|T_ret ?_)
   have hr:=hs
   refine Rt_fin (vs:=[_,_]) results216 rfl ⟨ResOk_blk 0 hr isAgg226 sizeOf226 rfl (cs:=[_,_,_]) rfl rfl,rfl,trivial⟩ ?_
   try dsimp only [tup]
   exact ⟨_,[],hs.done,rfl,_,rfl,_,_,_,rfl,hzC,hzN,hzA⟩
  have hle:=hs.le
  refine S_alloc hs zeroValue276 (cs:=(tabC (List.replicate 256 0) 0 (Vn) (Vn))) rfl fun b12 _ hs =>A_moreS hs hle (Ghost.le.refl _) (List.sublist_cons_self _ _) ?_
  have hle:=hs.le
  refine Xo 7 rfl (Sc (expl_ok (start:=enterF X3 ⟨0,0,0⟩) (nx:=concN X3 X4) (ac:=fun a=>someF X4 a.s) (ok:=fun a=>a.p<X3.next.length) (most:=4096) (lb1:=[Vp b10,Vp b6,Vp b7]) (lb2:=[Vp b7]) hJl hj hJb dC dC hen (fun a c hc h=>hpn a c h (hJ256 c hc)) func244 rfl kR func247 rfl kR (fun G' s c ho hc hG=>co2_ok (hE.mono hG) ⟨_,_,hB6.mono hG,hX3,hn26.mono hG,ha26.mono hG⟩ ⟨_,_,hB7.mono hG,hX4,hn30.mono hG,ha30.mono hG⟩ hok3 hok4 h64 (hJ256 c hc) ho) (fun G' s _ hG=>co3_ok ⟨_,_,hB7.mono hG,hX4,hn30.mono hG,ha30.mono hG⟩ oM) hex) hs rfl fun v13 G' H' _ hR hG47 hs=>?_)
  obtain ⟨rfl,vt,rfl,h32⟩:=hR
  replace hs:=hs.n rfl
  obtain ⟨u32,w32,rfl,hc32,hn32,ha32⟩:=h32
  obtain ⟨N32,n32,rfl⟩:=LstR.slice hn32
  obtain ⟨A32,a32,rfl,_⟩:=id ha32
  refine A_moreS hs hle hG47 (List.Sublist.refl _)<|Xr [8] [] hs rfl<|A_pure 10 rfl kR rfl (Y_extract rfl rfl<|Xr [9] [] hs rfl<|Xn 12 rfl (Sw hs rfl Z3 Z3 (tabC_one rfl rfl) fun _ hs=>Xa 13 rfl (S_y hs rfl (Yq rfl<|Xe (Zk [4,12,13] rfl<|Wu 10 [0] hs rfl<|Zy hs (Yk 0 rfl (tabC_len hJl)<|O_s (Sc (limited_ok (t:=(⟨J.cell,J.bytes.length,RN.1,RN.2⟩:Tb)) ⟨_,_,rfl,hJl,hn32,ha32⟩ hokR hDR hn2) hs rfl fun v14 G' H' _ hR hG54 hs=>?_)))))))
  obtain ⟨rfl,vd,rfl,hz⟩:=hR
  replace hs:=hs.n rfl
  obtain ⟨zc,zn,za,rfl,hzC,hzN,hzA⟩:=hz
  obtain ⟨Cz,cz,rfl⟩:=LstR.slice hzC
  obtain ⟨Nz,nz,rfl⟩:=LstR.slice hzN
  obtain ⟨Az,az,rfl,_⟩:=id hzA
  refine Wp 2 [] hs rfl<|O_n (Sg hs.f2 rfl (rfl) fun _ hs=>Wp 2 [0] hs rfl<|T_ret ?_)
  have hr:=hs
  refine Rt_fin (vs:=[_,_]) results216 rfl ⟨ResOk_blk 0 hr isAgg226 sizeOf226 rfl (cs:=[_,_,_]) rfl rfl,rfl,trivial⟩ ?_
  try dsimp only [tup]
  exact ⟨_,[],hs.done,rfl,_,rfl,_,_,_,rfl,hzC,hzN,hzA⟩
 have hle:=hs.le
 refine S_alloc hs zeroValue276 (cs:=(tabC (List.replicate 256 0) 0 (Vn) (Vn))) rfl fun b12 _ hs =>A_moreS hs hle (Ghost.le.refl _) (List.sublist_cons_self _ _) ?_
 have hle:=hs.le
 refine Xo 4 rfl (S_callV (args:=[_]) (lb:=[_]) (H1:=[]) hs rfl rfl func243 rfl kR (co1_ok (a:=⟨0,0,0⟩) ⟨_,_,hB6,hX3,hn26,ha26⟩ (by show 0<_;omega)) fun v15 G' H' _ hR hG44 hs=>?_)
 obtain ⟨rfl,rfl⟩:=hR
 replace hs:=hs.n rfl
 replace hn26:=hn26.mono hG44
 replace ha26:=ha26.mono hG44
 replace hn30:=hn30.mono hG44
 replace ha30:=ha30.mono hG44
 replace hj:=hj.mono hG44
 replace hB6:=hB6.mono hG44
 replace hB7:=hB7.mono hG44
 replace hE:=hE.mono hG44
 refine A_moreS hs hle hG44 (List.Sublist.refl _) ?_
 have hle:=hs.le
 refine Xo 7 rfl (Sc (expl_ok (start:=enterF X3 ⟨0,0,0⟩) (nx:=concN X3 X4) (ac:=fun a=>someF X4 a.s) (ok:=fun a=>a.p<X3.next.length) (most:=4096) (lb1:=[Vp b10,Vp b6,Vp b7]) (lb2:=[Vp b7]) hJl hj hJb dC dC hen (fun a c hc h=>hpn a c h (hJ256 c hc)) func244 rfl kR func247 rfl kR (fun G' s c ho hc hG=>co2_ok (hE.mono hG) ⟨_,_,hB6.mono hG,hX3,hn26.mono hG,ha26.mono hG⟩ ⟨_,_,hB7.mono hG,hX4,hn30.mono hG,ha30.mono hG⟩ hok3 hok4 h64 (hJ256 c hc) ho) (fun G' s _ hG=>co3_ok ⟨_,_,hB7.mono hG,hX4,hn30.mono hG,ha30.mono hG⟩ oM) hex) hs rfl fun v16 G' H' _ hR hG47 hs=>?_)
 obtain ⟨rfl,vt,rfl,h32⟩:=hR
 replace hs:=hs.n rfl
 obtain ⟨u32,w32,rfl,hc32,hn32,ha32⟩:=h32
 obtain ⟨N32,n32,rfl⟩:=LstR.slice hn32
 obtain ⟨A32,a32,rfl,_⟩:=id ha32
 refine A_moreS hs hle hG47 (List.Sublist.refl _)<|Xr [8] [] hs rfl<|A_pure 10 rfl kR rfl (Y_extract rfl rfl<|Xr [9] [] hs rfl<|Xn 12 rfl (Sw hs rfl Z3 Z3 (tabC_one rfl rfl) fun _ hs=>Xa 13 rfl (S_y hs rfl (Yq rfl<|Xe (Zk [4,12,13] rfl<|Wu 10 [0] hs rfl<|Zy hs (Yk 0 rfl (tabC_len hJl)<|O_s (Sc (limited_ok (t:=(⟨J.cell,J.bytes.length,RN.1,RN.2⟩:Tb)) ⟨_,_,rfl,hJl,hn32,ha32⟩ hokR hDR hn2) hs rfl fun v17 G' H' _ hR hG54 hs=>?_)))))))
 obtain ⟨rfl,vd,rfl,hz⟩:=hR
 replace hs:=hs.n rfl
 obtain ⟨zc,zn,za,rfl,hzC,hzN,hzA⟩:=hz
 obtain ⟨Cz,cz,rfl⟩:=LstR.slice hzC
 obtain ⟨Nz,nz,rfl⟩:=LstR.slice hzN
 obtain ⟨Az,az,rfl,_⟩:=id hzA
 refine Wp 2 [] hs rfl<|O_n (Sg hs.f2 rfl (rfl) fun _ hs=>Wp 2 [0] hs rfl<|T_ret ?_)
 have hr:=hs
 refine Rt_fin (vs:=[_,_]) results216 rfl ⟨ResOk_blk 0 hr isAgg226 sizeOf226 rfl (cs:=[_,_,_]) rfl rfl,rfl,trivial⟩ ?_
 try dsimp only [tup]
 exact ⟨_,[],hs.done,rfl,_,rfl,_,_,_,rfl,hzC,hzN,hzA⟩
end Go.Proofs.YtkeplgdofphnkaaGreatDoor
