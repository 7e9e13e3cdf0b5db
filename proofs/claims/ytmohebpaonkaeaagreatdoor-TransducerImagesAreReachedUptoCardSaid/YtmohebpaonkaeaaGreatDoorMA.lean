/- Part 1 of the walk through the functions that the laws of package fleet call: each function's contract, without conditions but those that its statement names. -/
import Derived.TacticsIn
import Derived.OrdersIn
import Derived.OrdersHeld
import Derived.Below
import Derived.KernelRfl
import Derived.Maps.AppendAt
import Derived.Laws.Entries
import Derived.Laws.Cells
import Derived.Laws.BytesArg
import Derived.Laws.OwnMore
import Derived.Laws.BitsLemmas
import Derived.Laws.MakeOwn
import Derived.Laws.Strings
import Derived.RangeFuncLeaves
import Derived.RangeFuncRecord
import Derived.RangeFuncSeq
import Derived.WideMake
import Derived.MapKept
import Derived.Laws.Bits64
import Derived.Lib.SliceRun
import Derived.Lib.ConvBytes
import Derived.Carry
import Derived.ChangeSlices
import Derived.Deep.Slices
import Derived.Lib.SmallJoins
import Derived.ProofKit
import Derived.OpenShut
import Derived.Deep.DeepHandedRow
import Derived.Lib.LaidTab
import Derived.Test.YtmohebpaonkaeaaGreatDoorRows
import Derived.RecoverIn
import Derived.Laws.StructEq
import Derived.Lib.AppendStr
import Derived.Lib.UnsafeStr
import Derived.Lib.Builder
import Derived.Laws.Externs
import Derived.Maps.RangeRun
import Derived.Test.YtmohebpaonkaeaaGreatDoorProg
set_option maxHeartbeats 4000000
set_option maxRecDepth 10000
set_option linter.unusedVariables false
set_option linter.unusedSimpArgs false
set_option linter.unusedSectionVars false
namespace Go.Ex
abbrev AaA:=@List.getElem?_eq_getElem
abbrev AaB:=@List.length_append
abbrev AaC:=@List.length_map
abbrev AaD:=@List.getElem_mem
abbrev AaE:=@List.mem_singleton
abbrev AaF:=@List.mem_of_getElem?
abbrev AaG:=@List.mem_cons_of_mem
abbrev AaH:=@List.getD_eq_getElem?_getD
abbrev AaI:=@List.append_assoc
abbrev AaJ:=@List.length_replicate
abbrev AaK:=@List.mem_cons_self
abbrev AaL:=@List.getElem?_eq_none
abbrev AaM:=@Nat.lt_or_ge
abbrev AaN:=@List.getElem?_append_left
abbrev AaO:=@List.length_range
abbrev AaP:=@List.length_set
abbrev AaQ:=@List.mem_iff_getElem
abbrev AaR:=@Nat.le_refl
abbrev AaS:=@List.mem_append
abbrev AaT:=@Nat.mod_eq_of_lt
abbrev AaU:=@List.map_append
abbrev AaV:=@List.mem_cons
abbrev AaW:=@List.getElem?_append_right
abbrev AaX:=@List.append_nil
abbrev AaY:=@List.mem_append_left
abbrev AaZ:=@List.length_cons
abbrev Aaa:=@List.getElem_map
abbrev Aab:=@List.take_of_length_le
abbrev Aac:=@List.length_singleton
abbrev Aad:=@List.map_set
abbrev Aae:=@List.mem_range
abbrev Aaf:=@List.mem_map
abbrev Aag:=@List.length_take
abbrev Aah:=@Bool.and_eq_true
abbrev Aai:=@Nat.le_trans
abbrev Aaj:=@List.take_length
abbrev Aak:=@List.getElem?_map
abbrev Aal:=@List.mem_map_of_mem
abbrev Aam:=@Nat.eq_of_beq_eq_true
abbrev Aan:=@List.flatMap_cons
abbrev Aao:=@List.foldl_cons
abbrev Aap:=@List.foldl_append
abbrev Aaq:=@List.drop_eq_getElem_cons
abbrev Aar:=@List.map_cons
abbrev Aas:=@Nat.zero_le
abbrev Aav:=@UInt8.toNat_ofNat'
abbrev Aaw:=@Nat.sub_self
abbrev Aax:=@List.sublist_cons_self
abbrev Aay:=@List.take_add_one
abbrev Aaz:=@List.nodup_nil
abbrev AbA:=@List.nil_append
abbrev AbB:=@List.mem_or_eq_of_mem_set
abbrev AbC:=@List.range_succ
abbrev AbD:=@List.all_eq_true
abbrev AbE:=@Int.toNat_natCast
abbrev AbF:=@List.mem_append_right
abbrev AbG:=@Bool.eq_iff_iff
abbrev AbH:=@List.replicate_zero
abbrev AbI:=@List.not_mem_nil
abbrev AbJ:=@List.getElem?_take_of_lt
abbrev AbK:=@Bool.false_eq_true
abbrev AbL:=@Nat.mul_le_mul_right
abbrev AbM:=@List.set_append_right
abbrev AbN:=@List.getElem?_eq_some_iff
abbrev AbO:=@List.pairwise_cons
abbrev AbP:=@Nat.eq_zero_or_pos
abbrev AbQ:=@List.nodup_append
abbrev AbR:=@List.eq_nil_of_length_eq_zero
abbrev AbS:=@Nat.div_eq_of_lt
abbrev AbT:=@List.nodup_cons
abbrev AbU:=@List.drop_eq_nil_of_le
abbrev AbV:=@List.map_map
abbrev AbW:=@List.flatten_cons
abbrev AbX:=@List.map_congr_left
abbrev AbY:=@List.replicate_succ
abbrev AbZ:=@Nat.mul_add_div
abbrev Aba:=@List.eq_of_mem_replicate
abbrev Abb:=@List.ext_getElem
abbrev Abc:=@List.cons_append
abbrev Abd:=@List.perm_append_comm
abbrev Abe:=@Array.length_toList
abbrev Abf:=@Nat.mul_one
abbrev Abg:=@Nat.mul_le_mul
abbrev Abh:=@List.mem_flatMap
abbrev Abi:=@Bool.eq_false_iff
abbrev Abj:=@Bool.false_ne_true
abbrev Abk:=@List.map_replicate
abbrev Abl:=@List.flatMap_append
abbrev Abm:=@Nat.pow_succ
abbrev Abn:=@Nat.add_zero
abbrev Abo:=@List.length_drop
abbrev Abp:=@Int.eq_ofNat_of_zero_le
abbrev Abq:=@List.pairwise_append
abbrev Abr:=@Nat.zero_add
abbrev Abs:=@List.getElem_range
abbrev Abv:=@Bool.or_eq_true
abbrev Abw:=@List.length_zipWith
abbrev Abx:=@Array.getElem?_modify
abbrev Aby:=@List.getElem_set_self
abbrev Abz:=@Nat.mod_lt
abbrev AcA:=@Nat.le_of_ble_eq_true
abbrev AcB:=@Nat.mul_comm
abbrev AcC:=@UInt8.lt_iff_toNat_lt
abbrev AcD:=@Nat.lt_of_lt_of_le
abbrev AcE:=@Nat.one_mul
abbrev AcF:=@Bool.true_and
abbrev AcG:=@List.mem_filter
abbrev AcH:=@List.set_cons_zero
abbrev AcI:=@UInt8.toNat_inj
abbrev AcJ:=@Nat.testBit_and
abbrev AcK:=@Nat.succ_mul
abbrev AcL:=@Array.getElem?_eq_none
abbrev AcM:=@List.getElem_replicate
abbrev AcN:=@Nat.add_mul
abbrev AcO:=@Int.toNat_of_nonneg
abbrev AcP:=@Bool.not_true
abbrev AcQ:=@Bool.not_false
abbrev AcR:=@List.pairwise_iff_getElem
abbrev AcS:=@List.take_zero
abbrev AcT:=@Option.bind_some
abbrev AcU:=@Nat.pow_pos
theorem Z0 {p:Prop} (h:p:=by rw [Pa (k:=k) (r:=rr) (e:=ee) (f:=_) (by rw [Cn7.gD (show k<t.moves.length by omega),herr]) (by rw [Cn7.gD (show k<t.ends.length by omega),hee]) (by rw [Cn7.gD (show k<t.final.length by omega),hff])];rw [decide_eq_true (show rr.length=t.cls.length by omega)];rw [decide_eq_true (show ee.length≤8 by omega)];rw [decide_eq_true (show ee.length≤0 by omega)];rw [show rr.all (nI t.moves.length)=!q86 by rw [← hq86,Xq,Bool.not_not],hqs];rfl):p:=h
theorem Z1 {p:Prop} (h:p:=by rw [Pa (k:=k) (r:=rr) (e:=ee) (f:=_) (by rw [Cn7.gD (show k<t.moves.length by omega),herr]) (by rw [Cn7.gD (show k<t.ends.length by omega),hee]) (by rw [Cn7.gD (show k<t.final.length by omega),hff])];rw [decide_eq_true (show rr.length=t.cls.length by omega)];rw [decide_eq_true (show ee.length≤8 by omega)];rw [show rr.all (nI t.moves.length)=!q86 by rw [← hq86,Xq,Bool.not_not],hqs];rfl):p:=h
theorem Z2 {p:Prop} (h:p:=by first|exact Cf hcx|exact Cf hcy|exact Mo rfl oM|exact Mo (Vd _).cl oM|exact (AaC _).trans AaJ|exact (AaC _).trans (Vd _).cl):p:=h
theorem Z3 {p:Prop} (h:p:=by first|rfl|exact Cf hX1|exact Cf hX2|exact Cf hJl|exact Cf AaJ|exact (AaC _).trans hJl|exact (AaC _).trans AaJ):p:=h
theorem Z4 {p:Prop} (h:p:=by first|exact Np (Ch _)|exact Np AaJ|(rw [AaC];first|exact Ch _|exact AaJ|exact hc4.1|assumption|rfl)):p:=h
theorem Z5 {p:Prop} (h:p:=by first|exact Cf (Ha _ _)|exact Cf AaJ|(rw [AaC];first|assumption|rfl)):p:=h
theorem Z6 {p:Prop} (h:p:=by rintro ⟨h8,h9⟩;first|exact Abj (hfp.symm.trans h8)|exact Abj (haq.symm.trans h9)):p:=h
theorem Z7 {p:Prop} (h:p:=by rw [Xq,zP (by dsimp only;omega) (by dsimp only;omega) (by dsimp only;omega) (by dsimp only;omega)]):p:=h
theorem Z8 {p:Prop} (h:p:=by first|exact Cf (Vg oM)|exact Cf AaJ|exact Cf AaO):p:=h
theorem Z9 {p:Prop} (h:p:=by rw [show (x.out[2*(ax+k)+j]'(by rw [hxo];omega)).toNat=xo.toNat from by rw [hxov];simp only [hxo]];omega):p:=h
theorem Z10 {p:Prop} (h:p:=by clear h hl;induction vs with | nil=>rfl | cons v vs ih=>rw [Aar,AbW,← ih];rfl):p:=h
theorem Z11 {p:Prop} (h:p:=by first|exact Cf hcl|exact Cf AaJ|exact (AaC _).trans hcl):p:=h
theorem Z12 {p:Prop} (h:p:=by rcases AaS.1 h9 with h9 | h9;exact hr256 r9 h9;rw [AaE.1 h9];exact hrl):p:=h
theorem Z13 {p:Prop} (h:p:=by first|(rw [AaC];first|exact Ha _ _|exact AaJ|assumption|rfl)):p:=h
theorem Z14 {p:Prop} (h:p:=by first|(rw [AaC];first|exact Ch _|exact AaJ|assumption|rfl)):p:=h
theorem Z15 {p:Prop} (h:p:=by rw [AaC];exact (Oy (hs2ok.c4 _ (AaD hixl)).1 (Hq _)).1):p:=h
theorem Z16 {p:Prop} (h:p:=by rw [htk1,AaU,AaU,List.map_singleton,hpa,kT];simp [Da]):p:=h
theorem dB {p:Prop} (h:p:=by first|rfl|(rw [AaC];first|assumption|exact Kx hs4 hc4|rfl)):p:=h
theorem Z18 {p:Prop} (h:p:=by rw [rdO_step oM hxe,hpx,← AaI,bQ];simp [pcC];omega):p:=h
theorem Z19 {p:Prop} (h:p:=by rw [AaC];exact (Tt (hc4 _ (AaD hcl))).1):p:=h
theorem Z20 {p:Prop} (h:p:=by unfold Qf;rw [hxf,← hqf,decide_eq_true_iff];dsimp only [Jg];omega):p:=h
theorem Z21 {p:Prop} (h:p:=by rw [AaC,AaB,AaJ];omega):p:=h
theorem Z22 {p:Prop} (h:p:=by first|(rw [AaC];first|exact hc4.1|exact hee4.1|rfl)|rfl):p:=h
theorem Z23 {p:Prop} (h:p:=by rw [oE oM,hee,hpe];simp [eN,oF,vB]):p:=h
theorem Z24 {p:Prop} (h:p:=by rw [AaC];exact (hs2ok.c4 _ (AaD _)).1):p:=h
theorem Z25 {p:Prop} (h:p:=by first|exact Cf hc13|exact Cf AaJ):p:=h
theorem Z26 {p:Prop} (h:p:=by rw [hce,u8k (show k<256 by omega)];exact eK (Ch _) oM):p:=h
theorem Z27 {p:Prop} (h:p:=by rw [hrwe];unfold gZ;rw [AaC,AaO]):p:=h
theorem Z28 {p:Prop} (h:p:=by rw [AaC];exact (hc4 _ (AaD hcl)).1):p:=h
theorem Z29 {p:Prop} (h:p:=by rw [AaC,show [q0,q1,q2,q3].length=4 from rfl]):p:=h
theorem Z30 {p:Prop} (h:p:=by first|rfl|(rw [pcB_t oM];rfl)|(rw [pcB_e oM];rfl)):p:=h
theorem Z31 {p:Prop} (h:p:=by rw [Cn7.gD (show k<t.moves.length by omega),herr]):p:=h
theorem Z32 {p:Prop} (h:p:=by rw [Cn7.gD (show k<t.final.length by omega),hff]):p:=h
theorem Z33 {p:Prop} (h:p:=by rw [Cn7.gD (show k<t.ends.length by omega),hee]):p:=h
theorem Z34 {p:Prop} (h:p:=by rw [← Iy hs2ok.c4 hixl,hcs];simp [mH]):p:=h
theorem Z35 {p:Prop} (h:p:=by rw [AaE.1 hb] at e;exact e▸ha):p:=h
theorem Z36 {p:Prop} (h:p:=by rw [AaC,Aag];omega):p:=h
theorem Z37 {p:Prop} (h:p:=by constructor<;>intro<;>first|omega|simp_all):p:=h
theorem Z38 {p:Prop} (h:p:=by rw [← Hh hrl oM,Aad];rfl):p:=h
theorem Z39 {p:Prop} (h:p:=by rw [mvB_bad (by dsimp only;omega)];rfl):p:=h
theorem Z40 {p:Prop} (h:p:=by rw [Cf AaO];omega):p:=h
theorem mK {p:Prop} (h:p:=by simp [Aag,Da]<;>omega):p:=h
theorem Z42 {p:Prop} (h:p:=by rw [← herr];exact AaD _):p:=h
theorem Z43 {p:Prop} (h:p:=by rw [AaP] at hi;exact hi):p:=h
theorem Z44 {p:Prop} (h:p:=by have:=flc_le (l:=l) (k:=k) oM;omega):p:=h
theorem vW {p:Prop} (h:p:=by rw [herr];exact AaD _):p:=h
theorem Z46 {p:Prop} (h:p:=by rw [hse];exact AaD _):p:=h
theorem Z47 {p:Prop} (h:p:=by rw [hxe];exact AaD _):p:=h
theorem Z48 {p:Prop} (h:p:=by rw [hye];exact AaD _):p:=h
theorem Z49 {p:Prop} (h:p:=by rw [hze];exact AaD _):p:=h
theorem Z50 {p:Prop} (h:p:=by rw [Fx,AaU];rfl):p:=h
theorem Z51 {p:Prop} (h:p:=by rw [h];exact Abj):p:=h
theorem Z52 {p:Prop} (h:p:=by rw [Np (Ch _)];omega):p:=h
theorem Ph {p:Prop} (h:p:=by first|omega|(simp;omega)|simp):p:=h
theorem Z54 {p:Prop} (h:p:=by rw [AaC];exact h):p:=h
theorem Z55 {p:Prop} (h:p:=by rw [Aag];omega):p:=h
theorem iA {p:Prop} (h:p:=by rw [AaC];omega):p:=h
theorem Z57 {p:Prop} (h:p:=by rw [UInt8.toNat_mod];rfl):p:=h
theorem Z58 {p:Prop} (h:p:=by show 1≤1000000000;omega):p:=h
theorem Z59 {p:Prop} (h:p:=by rw [h.ol];exact hc):p:=h
theorem Z60 {p:Prop} (h:p:=by rw [Lt];omega):p:=h
theorem Z61 {p:Prop} (h:p:=by rw [← herr];omega):p:=h
theorem Eo {p:Prop} (h:p:=by dsimp only;omega):p:=h
theorem Z63 {p:Prop} (h:p:=by rw [hxo];omega):p:=h
theorem iB {p:Prop} (h:p:=by simpa using h):p:=h
theorem tE {p:Prop} (h:p:=by simp;omega):p:=h
theorem Z66 {p:Prop} (h:p:=by rw [hrec]):p:=h
theorem pB {p:Prop} (h:p:=by simp [hx]):p:=h
theorem Wn {p:Prop} (h:p:=by cases h):p:=h
theorem Lk {p:Prop} (h:p:=by decide):p:=h
theorem Bm {p:Prop} (h:p:=by omega):p:=h
theorem Di {p:Prop} (h:p:=by simp):p:=h
end Go.Ex
namespace Go.Ex
open Go
def RF (r:Option Nat):Fence:={ fn:=fun _=>True,depth:=none,alive:=false,round:=r }
structure Env where
 d:List Deferred
 l:List (Nat×Value)
def Em:List (Nat×Value)→Nat→Option Value
 | [],_=>none
 | (k,v)::E,t=>bif Nat.beq k t then some v else Em E t
def ev (E:Env):Operand→Option Value
 | .tmp t=>Em E.l t
 | .const v=>some v
 | .global g=>some (.pointer (some ⟨g,0,none⟩))
 | .func f=>some (.func (.func f) #[] #[])
def Env.put (E:Env) (d:Option Tmp) (v:Value):Env :=
 match d with
 | none=>E
 | some t=>⟨E.d,(t,v)::E.l⟩
def Jq:List (Nat×Value)→List (Nat×Value)→Prop
 | [],_=>True
 | (t,v)::L,E=>Em E t=some v∧Jq L E
theorem iD:∀ {L E:List (Nat×Value)},Jq L E→∀ t v,Em L t=some v→Em E t=some v
 | [],_,_,_,_,h=>by cases h
 | (k,u)::L,E,⟨h1,h2⟩,t,v,h=>by
  unfold Em at h
  cases hb:Nat.beq k t with
  | true =>
   rw [hb] at h
   obtain rfl:=Aam hb
   simp at h;subst h;exact h1
  | false=>rw [hb] at h;exact iD h2 t v iB
structure Ag (N:Nat) (E:Env) (a:Act):Prop where
 size:a.tmps.size=N
 defs:a.defers=E.d
 look:∀ t v,Em E.l t=some v→a.tmps[t]?=some v
section
variable {N:Nat} {E:Env} {a:Act}
theorem Ag.ev (h:Ag N E a) {o:Operand} {v:Value} (ho:ev E o=some v):a.eval o=v:=by
 cases o with
 | tmp t =>
  have:=h.look t v ho
  simp [Act.eval,this]
 | const u=>simpa [Ex.ev,Act.eval] using ho
 | global g=>simpa [Ex.ev,Act.eval] using ho
 | func f=>simpa [Ex.ev,Act.eval] using ho
theorem Ag.put (h:Ag N E a) (d:Option Tmp) (v:Value) (hd:∀ t,d=some t→t<N):Ag N (E.put d v) (a.put d v):=by
 cases d with
 | none=>exact h
 | some t =>
  have ht:=hd t rfl
  refine ⟨by simp [Act.put,h.size],h.defs,fun k u hk=>?_⟩
  simp only [Env.put,Em] at hk
  simp only [Act.put]
  cases hb:Nat.beq t k with
  | true =>
   rw [hb] at hk
   obtain rfl:=Aam hb
   simp at hk;subst hk
   rw [Array.getElem?_setIfInBounds_self_of_lt (by rw [h.size];exact ht)]
  | false =>
   rw [hb] at hk
   have hne:t≠k:=Nat.ne_of_beq_eq_false hb
   rw [Array.getElem?_setIfInBounds_ne hne]
   exact h.look k u (by simpa using hk)
theorem Ag.sub {L:List (Nat×Value)} (h:Ag N E a) (hs:Jq L E.l):Ag N ⟨E.d,L⟩ a :=
 ⟨h.size,h.defs,fun t v ht=>h.look t v (iD hs t v ht)⟩
end
structure Cx where
 P:Program
 N:Nat
 r:Option Nat
def Uc (N:Nat) (Q:Exit→Env→World→Prop):Exit→Act→World→Prop:=fun e a w=>∃ E,Ag N E a∧Q e E w
def T (x:Cx) (c:Code) (Q:Exit→Env→World→Prop) (E:Env) (w:World):Prop :=
 ∀ a,Ag x.N E a→c.wpIn (RF x.r) 0 x.P (Uc x.N Q) a w
@[reducible] def sq (K:Env→World→Prop) (Q:Exit→Env→World→Prop):Exit→Env→World→Prop
 | .normal,E,w=>K E w
 | e,E,w=>Q e E w
@[reducible] def bk (id:Nat) (Q:Exit→Env→World→Prop):Exit→Env→World→Prop
 | .exit id',E,w=>bif Nat.beq id' id then Q .normal E w else Q (.exit id') E w
 | e,E,w=>Q e E w
@[reducible] def lp (I:Nat→Env→World→Prop) (n:Nat) (Q:Exit→Env→World→Prop):Exit→Env→World→Prop
 | .normal,E,w=>∃ m,m<n∧∃ L,Jq L E.l∧I m ⟨E.d,L⟩ w
 | e,E,w=>Q e E w
section
variable {x:Cx} {Q:Exit→Env→World→Prop} {E:Env} {w:World}
theorem mL {c:Code} {Q':Exit→Env→World→Prop} (h:T x c Q E w) (hq:∀ e E w,Q e E w→Q' e E w):T x c Q' E w :=
 fun a ha=>wpIn_mono (h a ha) fun e _ _ ⟨E',h1,h2⟩=>⟨E',h1,hq e _ _ h2⟩
theorem T_seq {c d:Code} (h:T x c (sq (T x d Q) Q) E w):T x (.seq c d) Q E w:=fun a ha =>
 wpIn_seq (wpIn_mono (h a ha) fun e a' w' ⟨E',hE,hq⟩=>by
  cases e with
  | normal=>exact hq a' hE
  | _=>exact ⟨E',hE,hq⟩)
theorem Og (h:Q .normal E w):T x .skip Q E w:=fun _ ha=>wpIn_skip ⟨E,ha,h⟩
theorem mM {id:Nat} (h:Q (.exit id) E w):T x (.exit id) Q E w:=fun _ ha=>wpIn_exit ⟨E,ha,h⟩
theorem As (h:Q .ret E w):T x .ret Q E w:=fun _ ha=>wpIn_ret ⟨E,ha,h⟩
theorem vY {c:Operand} {b:Bool} {p q:Code} (hc:ev E c=some (.bool b)) (h:T x (if b then p else q) Q E w):T x (.cond c p q) Q E w :=
 fun a ha=>wpIn_cond (ha.ev hc) (h a ha)
theorem pC {c:Operand} {p q:Code} (hc:ev E c=some (.bool true)) (h:T x p Q E w):T x (.cond c p q) Q E w:=vY hc h
theorem pD {c:Operand} {p q:Code} (hc:ev E c=some (.bool false)) (h:T x q Q E w):T x (.cond c p q) Q E w:=vY hc h
theorem Fk {c:Operand} {b:Bool} {p q:Code} (hc:ev E c=some (.bool b)) (h1:b=true→T x p Q E w) (h2:b=false→T x q Q E w):T x (.cond c p q) Q E w:=by
 cases b with
 | true=>exact pC hc (h1 rfl)
 | false=>exact pD hc (h2 rfl)
theorem Kd {id:Nat} {c:Code} (h:T x c (bk id Q) E w):T x (.block id c) Q E w:=fun a ha =>
 wpIn_block (wpIn_mono (h a ha) fun e a' w' ⟨E',hE,hq⟩=>by
  cases e with
  | exit id' =>
   simp only [bk] at hq
   simp only [Exit.inBlock]
   cases hb:Nat.beq id' id with
   | true =>
    rw [hb] at hq
    obtain rfl:=Aam hb
    simp only [if_true]
    exact ⟨E',hE,by simpa using hq⟩
   | false =>
    rw [hb] at hq
    rw [if_neg (Nat.ne_of_beq_eq_false hb)]
    exact ⟨E',hE,by simpa using hq⟩
  | _=>exact ⟨E',hE,hq⟩)
@[reducible] def ng (Q:Exit→Env→World→Prop):Exit→Env→World→Prop
 | .goto _,_,_=>False
 | e,E,w=>Q e E w
theorem Oh (L:List (Nat×Value)) {D:List Deferred} {M:List (Nat×Value)} {c:Code} (hs:Jq L M) (h:T x c Q ⟨D,L⟩ w):T x c Q ⟨D,M⟩ w:=fun a ha=>h a (ha.sub (E:=⟨D,M⟩) hs)
theorem Ud {c:Code} (I:Nat→Env→World→Prop) {n0:Nat} {D:List Deferred} {M L:List (Nat×Value)} (hL:Jq L M) (h0:I n0 ⟨D,L⟩ w)
  (hstep:∀ n E w,I n E w→T x c (lp I n Q) E w):T x (.loop c) Q ⟨D,M⟩ w:=fun a ha=>by
 intro b k cs hro hb hr
 have key:∀ n a w E,Ag x.N E a→I n E w →
   ∃ e a' w',Uc x.N Q e a' w'∧ArrivesIn (Machine.fenced x.P (RF x.r)) x.P (lone (b.atR a (.code c::.inLoop c::k)) cs w) b k cs e a' w':=by
  intro n
  induction n using Nat.strongRecOn with
  | _ n ih =>
   intro a w E ha hI
   obtain ⟨e,a₁,w₁,⟨E₁,hE₁,hq⟩,harr⟩:=hstep n E w hI a ha b (.inLoop c::k) cs hro hb hr
   cases e with
   | normal =>
    obtain ⟨m,hm,L,hL,hIm⟩:=hq
    obtain ⟨e₂,a₂,w₂,hq₂,harr₂⟩:=ih m hm a₁ w₁ _ (hE₁.sub hL) hIm
    exact ⟨e₂,a₂,w₂,hq₂,.of_steps (StepsIn.trans harr (.one (fenced_calm hb hr rfl) stepR_inLoop)) harr₂⟩
   | exit id=>exact ⟨_,a₁,w₁,⟨E₁,hE₁,hq⟩,.pass (x:=.inLoop c) rfl (fun _ _=>.inl Di) harr⟩
   | goto l=>exact ⟨_,a₁,w₁,⟨E₁,hE₁,hq⟩,.pass (x:=.inLoop c) rfl (fun _ _=>.inl Di) harr⟩
   | ret=>exact ⟨_,a₁,w₁,⟨E₁,hE₁,hq⟩,.pass (x:=.inLoop c) rfl (fun _ _=>.inl Di) harr⟩
   | panic ch=>exact ⟨_,a₁,w₁,⟨E₁,hE₁,hq⟩,.pass (x:=.inLoop c) rfl (fun _ _=>.inl Di) harr⟩
   | outgrown=>exact ⟨_,a₁,w₁,⟨E₁,hE₁,hq⟩,.pass (x:=.inLoop c) rfl (fun _ _=>.inl Di) harr⟩
 obtain ⟨e,a',w',hq,harr⟩:=key n0 a w _ (ha.sub (E:=⟨D,M⟩) hL) h0
 exact ⟨e,a',w',hq,.of_steps (.one (fenced_calm hb hr rfl) stepR_loop) harr⟩
def Jf:Op→Bool
 | .defer _=>false
 | _=>true
def S (x:Cx) (o:Oper) (Q:Exit→Env→World→Prop) (K:Value→World→Prop) (E:Env) (w:World):Prop :=
 ∀ a,Ag x.N E a→∀ next:Act→World→Prop,(∀ v w',K v w'→next (a.put o.dst v) w')→o.wpIn (RF x.r) 0 x.P a w next (Uc x.N Q)
def O (x:Cx) (ops:Array Oper) (Q:Exit→Env→World→Prop) (l:List Oper) (E:Env) (w:World):Prop :=
 (∀ o∈l,∀ d,o.dst=some d→d<x.N)→∀ a,Ag x.N E a→wpListIn (RF x.r) 0 x.P ops (Uc x.N Q) l a w
def Mu (N:Nat) (l:List Oper):Bool:=l.all fun o=>match o.dst with | some d=>Nat.blt d N | none=>true
theorem Vu {N:Nat} {l:List Oper} (h:Mu N l=true):∀ o∈l,∀ d,o.dst=some d→d<N:=by
 intro o ho d hd
 have:=AbD.1 h o ho
 simp only [hd] at this
 simpa [Nat.blt_eq] using this
theorem iE {id:Nat} {l:List Oper} (hd:Mu x.N l=true) (h:O x l.toArray Q l E w):T x (.region id l.toArray false) Q E w :=
 fun a ha=>wpIn_region_lit (h (Vu hd) a ha)
theorem Cr {ops:Array Oper} (h:Q .normal E w):O x ops Q [] E w:=fun _ _ ha=>wpListIn_nil ⟨E,ha,h⟩
theorem O_s {ops:Array Oper} {t:Tmp} {op:Op} {ty:TypeId} {pos:String} {aft:Array Edge} {l:List Oper} {D:List Deferred} {L:List (Nat×Value)}
  (h:S x ⟨some t,op,ty,pos,aft,none⟩ Q (fun v w'=>O x ops Q l ⟨D,(t,v)::L⟩ w') ⟨D,L⟩ w):O x ops Q (⟨some t,op,ty,pos,aft,none⟩::l) ⟨D,L⟩ w:=by
 intro hd a ha
 refine wpListIn_plain rfl fun K hK=>h a ha K fun v w' hv=>hK _ _ ?_
 exact hv (fun o' ho'=>hd o' (AaG _ ho')) _ (ha.put (some t) _ (hd _ AaK))
theorem O_n {ops:Array Oper} {op:Op} {ty:TypeId} {pos:String} {aft:Array Edge} {l:List Oper}
  (h:S x ⟨none,op,ty,pos,aft,none⟩ Q (fun _ w'=>O x ops Q l E w') E w):O x ops Q (⟨none,op,ty,pos,aft,none⟩::l) E w:=by
 intro hd a ha
 refine wpListIn_plain rfl fun K hK=>h a ha K fun v w' hv=>hK _ _ ?_
 exact hv (fun o' ho'=>hd o' (AaG _ ho')) _ (ha.put none _ (hd _ AaK))
theorem Dh (d:Nat) {ops:Array Oper} {t:Tmp} {op:Op} {ty:TypeId} {pos:String} {aft:Array Edge} {l:List Oper} {D:List Deferred} {L:List (Nat×Value)} {j:Nat} {b:Bool} (hj:(ops[j]?).bind (·.dst)=some d) (hb:Em L d=some (.bool b))
  (h:S x ⟨some t,op,ty,pos,aft,some (j,b)⟩ Q (fun v w'=>O x ops Q l ⟨D,(t,v)::L⟩ w') ⟨D,L⟩ w):O x ops Q (⟨some t,op,ty,pos,aft,some (j,b)⟩::l) ⟨D,L⟩ w:=by
 intro hd a ha
 have hw:Region.wanted (⟨some t,op,ty,pos,aft,some (j,b)⟩:Oper) (yielded ops a.tmps)=true:=by
  simp only [Region.wanted,yielded,hj,AcT,ha.look d _ hb]
  simp
 refine wpListIn_step fun K hK=>?_
 rw [if_pos hw]
 refine h a ha K fun v w' hv=>hK _ _ ?_
 exact hv (fun o' ho'=>hd o' (AaG _ ho')) _ (ha.put (some t) _ (hd _ AaK))
theorem O_no (d:Nat) {ops:Array Oper} {t:Tmp} {op:Op} {ty:TypeId} {pos:String} {aft:Array Edge} {l:List Oper} {D:List Deferred} {L:List (Nat×Value)} {j:Nat} {b:Bool} (hj:(ops[j]?).bind (·.dst)=some d) (hb:Em L d=some (.bool (!b)))
  (h:O x ops Q l ⟨D,(t,undef)::L⟩ w):O x ops Q (⟨some t,op,ty,pos,aft,some (j,b)⟩::l) ⟨D,L⟩ w:=by
 intro hd a ha
 have hw:Region.wanted (⟨some t,op,ty,pos,aft,some (j,b)⟩:Oper) (yielded ops a.tmps)=false:=by
  simp only [Region.wanted,yielded,hj,AcT,ha.look d _ hb]
  cases b<;>rfl
 refine wpListIn_step fun K hK=>?_
 rw [hw]
 simp only [AbK,if_false]
 exact ⟨fun _ _=>trivial,hK _ _ (h (fun o' ho'=>hd o' (AaG _ ho')) _ (ha.put (some t) _ (hd _ AaK)))⟩
end
section
variable {r:Option Nat} {P:Program} {ops:Array Oper} {Q:Exit→Act→World→Prop} {pre:List Nat} {W:World→Prop}
def anc (ops:Array Oper):Nat→Nat→Nat→Bool
 | 0,_,_=>false
 | n+1,t,i=>match ops[t]? with
  | none=>false
  | some o=>(o.after.toList.any fun e=>Region.binds .any e && Nat.beq e.on i) || (o.after.toList.any fun e=>Region.binds .any e && anc ops n e.on i)
def DC (ops:Array Oper) (listed:Array Bool):Prop:=∀ (j:Nat) (o:Oper),ops[j]?=some o→listed.getD j false=true→∀ e∈o.after,Region.binds .any e=true→listed.getD e.on false=true
theorem Ql {ops:Array Oper} {listed:Array Bool} (h:DC ops listed) {i:Nat}:∀ (n t:Nat) (o:Oper),ops[t]?=some o→(∀ e∈o.after,Region.binds .any e=true→listed.getD e.on false=true)→anc ops n t i=true→listed.getD i false=true
 | 0,_,_,_,_,h2=>by cases h2
 | n+1,t,o,ho,hall,h2=>by
  simp only [anc,ho,Abv] at h2
  rcases h2 with h2 | h2
  ·obtain ⟨e,he,hb⟩:=List.any_eq_true.1 h2
   simp only [Aah] at hb
   have:=hall e (by simpa using he) hb.1
   rw [Aam hb.2] at this
   exact this
  ·obtain ⟨e,he,hb⟩:=List.any_eq_true.1 h2
   simp only [Aah] at hb
   have hl:=hall e (by simpa using he) hb.1
   cases hp:ops[e.on]? with
   | none =>
    cases n with
    | zero=>simp [anc] at hb
    | succ n=>simp [anc,hp] at hb
   | some p=>exact Ql h n e.on p hp (h e.on p hp hl) hb.2
theorem DC.set {ops:Array Oper} {listed:Array Bool} (h:DC ops listed) {j:Nat} {oj:Oper} (hj:ops[j]?=some oj) (hall:∀ e∈oj.after,Region.binds .any e=true→listed.getD e.on false=true):DC ops (listed.setIfInBounds j true):=by
 have up:∀ k,listed.getD k false=true→(listed.setIfInBounds j true).getD k false=true:=fun k hk=>by
  by_cases hkj:j=k
  ·subst hkj
   simp only [Array.getD_eq_getD_getElem?] at hk ⊢
   rcases AaM j listed.size with h' | h'
   ·rw [Array.getElem?_setIfInBounds_self_of_lt h'];rfl
   ·rw [AcL h'] at hk;cases hk
  ·rw [getD_set_ne false hkj];exact hk
 intro k o ho hk e he hb
 by_cases hkj:j=k
 ·subst hkj
  rw [hj] at ho
  injection ho with ho
  subst ho
  exact up _ (hall e he hb)
 ·rw [getD_set_ne false hkj] at hk
  exact up _ (h k o ho hk e he hb)
def Mw (r:Option Nat) (P:Program) (ops:Array Oper) (Q:Exit→Act→World→Prop) (pre:List Nat) (W:World→Prop):Nat→Array Bool→Act→World→Prop
 | 0,listed,a,w=>Region.ready .any ops listed=[]∧Q .normal a w
 | fuel+1,listed,a,w =>
  (Region.ready .any ops listed=[]→Q .normal a w) ∧
  ∀ i∈Region.ready .any ops listed,wpOpIn (RF r) 0 P ops Q i (fun a' w'=>(pre.contains i=true→W w')∧Mw r P ops Q pre W fuel (listed.setIfInBounds i true) a' w') a w
theorem Rq:∀ (fuel:Nat) (listed:Array Bool) (a:Act) (w:World),Mw r P ops Q pre W fuel listed a w→wpAnyIn (RF r) 0 P .any ops Q fuel listed a w
 | 0,_,_,_,h=>h
 | fuel+1,_,_,_,h=>⟨h.1,fun i hi=>wpOpIn_mono (fun a' w' h'=>Rq fuel _ a' w' h'.2) (h.2 i hi)⟩
theorem YieldsIf.wpOpInS {i:Nat} {o:Oper} {v:Value} {a:Act} (hi:ops[i]?=some o) (hnd:∀ c,o.op≠.defer c) (hy:YieldsIf P ops W o v a)
  {K:Act→World→Prop} {w:World} (hW:W w) (h:K (a.put o.dst v) w):wpOpIn (RF r) 0 P ops Q i K a w:=by
 unfold Go.wpOpIn
 simp only [hi]
 rcases hy with ⟨hw,hv⟩ | ⟨hw,rfl⟩
 ·simp only [hw,if_true,Oper.wpIn,Oper.semAt_eq _ _ _ hnd,hv w hW,Oper.uponIn];exact ⟨fun _ _=>trivial,h⟩
 ·simp only [hw,AbK,if_false];exact ⟨fun _ _=>trivial,h⟩
theorem Vv {j:Nat} {oi oj:Oper} {v:Value} (hj:ops[j]?=some oj) (hap:oi.apart ops oj=true)
  (hsi:∀ cs b,oi.op≠.select cs b) (hsj:∀ cs b,oj.op≠.select cs b) (hnd:∀ c,oj.op≠.defer c)
  (hQ:∀ c a w,Q (.panic c) (a.put oi.dst v) w→Q (.panic c) a w) {K:Act→World→Prop} {a:Act} {w:World}
  (hy:YieldsIf P ops W oi v a) (h:wpOpIn (RF r) 0 P ops Q j K (a.put oi.dst v) w) :
  wpOpIn (RF r) 0 P ops Q j (fun a' w'=>YieldsIf P ops W oi v a'∧K (a'.put oi.dst v) w') a w:=by
 obtain ⟨h1,h2,h3⟩:=Oper.apart_spec hap
 have keep:∀ (a:Act),YieldsIf P ops W oi v a→∀ u,YieldsIf P ops W oi v (a.put oj.dst u):=fun a hy u =>
  hy.of_same (execOp_put oi hsi a oj.dst u h3) (wanted_put oi a oj.dst u h3)
 have keepD:∀ d,YieldsIf P ops W oi v { a with defers:=d::a.defers }:=fun d=>hy.of_same rfl rfl
 unfold wpOpIn at *
 simp only [hj] at *
 rw [wanted_put oj a oi.dst v h1] at h
 split
 ·rename_i hw
  simp only [hw,if_true] at h
  unfold Oper.wpIn at *
  refine ⟨fun _ _=>trivial,?_⟩
  have h:=h.2
  rw [Oper.semAt_eq _ _ _ hnd,execOp_put oj hsj a oi.dst v h1] at h
  rw [Oper.semAt_eq _ _ _ hnd]
  generalize (execOp a.eval oj).run P w=res at *
  cases res with
  | ok x w' =>
   cases x<;>simp only [Oper.uponIn] at h ⊢
   case value u=>exact ⟨keep a hy u,by rw [← Act.put_comm a v u h2];exact h⟩
   case skip=>exact ⟨keep a hy _,by rw [← Act.put_comm a v undef h2];exact h⟩
   case defer d =>
    refine ⟨keep _ (keepD d) _,?_⟩
    rw [← Act.put_comm _ v undef h2,← Act.put_defers]
    exact h
   case enter f args =>
    refine ⟨h.1,CallsIn.mono h.2 fun e w'' he=>?_⟩
    cases e with
    | returned u=>exact ⟨keep a hy u,by rw [← Act.put_comm a v u h2];exact he⟩
    | panicked c=>exact hQ _ _ _ he
    | outgrown=>exact he
   case row row args=>exact ⟨h.1,RowsIn.mono h.2 fun u w'' he=>⟨keep a hy u,by rw [← Act.put_comm a v u h2];exact he⟩⟩
   case round l f tmps assign body =>
    refine ⟨h.1,RoundIn.mono h.2 fun e w'' he=>?_⟩
    cases e with
    | returned u=>exact ⟨keep a hy u,by rw [← Act.put_comm a v u h2];exact he⟩
    | panicked c=>exact hQ _ _ _ he
    | outgrown=>exact he
  | halt x w' =>
   cases x<;>simp only [Oper.uponIn] at h ⊢
   case panic u=>exact hQ _ _ _ h
 ·rename_i hw
  simp only [hw] at h
  exact ⟨fun _ _=>trivial,keep a hy _,by rw [← Act.put_comm a v undef h2];exact h.2⟩
theorem Rr {i:Nat} {oi:Oper} {v:Value} (hi:ops[i]?=some oi) (hsel:∀ (j:Nat) (o:Oper) cs b,ops[j]?=some o→o.op≠.select cs b)
  (hnd:∀ (j:Nat) (o:Oper) c,ops[j]?=some o→o.op≠.defer c)
  (hQ:∀ c a w,Q (.panic c) (a.put oi.dst v) w→Q (.panic c) a w) :
  ∀ (fuel:Nat) (listed:Array Bool) (a:Act) (w:World),
   (∀ j oj,ops[j]?=some oj→j≠i→listed.getD j true=false→(∀ e∈oj.after,Region.binds .any e=true→e.on≠i)→oi.apart ops oj=true) →
   i∈Region.ready .any ops listed→(∀ (j:Nat) (o:Oper),ops[j]?=some o→j≠i→pre.contains j=false→listed.getD j true=false→anc ops ops.size j i=true)→DC ops listed→YieldsIf P ops W oi v a→W w →
   Mw r P ops Q pre W fuel (listed.setIfInBounds i true) (a.put oi.dst v) w→Mw r P ops Q pre W (fuel+1) listed a w:=by
 intro fuel
 induction fuel with
 | zero =>
  intro listed a w _ hr _ hp hy hS H
  refine ⟨fun h=>(by rw [h] at hr;cases hr),fun j hj=>?_⟩
  by_cases hji:j=i
  ·subst hji;exact YieldsIf.wpOpInS hi (fun c=>hnd j oi c hi) hy hS ⟨fun _=>hS,H⟩
  ·have:=ready_mono hj hji
   rw [H.1] at this
   cases this
 | succ fuel ih =>
  intro listed a w hfree hr htail hp hy hS H
  refine ⟨fun h=>(by rw [h] at hr;cases hr),fun j hj=>?_⟩
  by_cases hji:j=i
  ·subst hji;exact YieldsIf.wpOpInS hi (fun c=>hnd j oi c hi) hy hS ⟨fun _=>hS,H⟩
  ·have h1:=H.2 j (ready_mono hj hji)
   obtain ⟨hjun,oj,hoj,hall⟩:=mem_ready.1 hj
   have hnot:∀ e∈oj.after,Region.binds .any e=true→e.on≠i:=fun e he hb heq=>by
    have h1:=hall e he hb
    have h0:=(mem_ready.1 hr).1
    rw [heq] at h1
    rcases AaM i listed.size with h' | h'
    ·simp [h'] at h0 h1;rw [h0] at h1;cases h1
    ·simp [AcL h'] at h1
   have h2:=Vv hoj (hfree j oj hoj hji hjun hnot) (fun cs b=>hsel i oi cs b hi) (fun cs b=>hsel j oj cs b hoj) (fun c=>hnd j oj c hoj) hQ hy h1
   have hfree':∀ k ok,ops[k]?=some ok→k≠i→(listed.setIfInBounds j true).getD k true=false →
     (∀ e∈ok.after,Region.binds .any e=true→e.on≠i)→oi.apart ops ok=true:=fun k ok hk hki hun hno=>by
    refine hfree k ok hk hki ?_ hno
    by_cases hjk:j=k
    ·subst hjk;exact hjun
    ·rw [getD_set_ne true hjk] at hun;exact hun
   have hall':∀ e∈oj.after,Region.binds .any e=true→listed.getD e.on false=true:=hall
   have hjp:pre.contains j=true:=by
    cases hc:pre.contains j with
    | true=>rfl
    | false =>
     have h5:=Ql hp ops.size j oj hoj hall' (htail j oj hoj hji hc hjun)
     have h6:=(mem_ready.1 hr).1
     simp only [Array.getD_eq_getD_getElem?] at h5 h6
     cases hg:listed[i]? with
     | none=>rw [hg] at h5;cases h5
     | some b=>rw [hg] at h5 h6;simp at h5 h6;rw [h5] at h6;cases h6
   have htail':∀ (k:Nat) (o:Oper),ops[k]?=some o→k≠i→pre.contains k=false→(listed.setIfInBounds j true).getD k true=false→anc ops ops.size k i=true:=fun k ok hk hki hkp hun=>by
    refine htail k ok hk hki hkp ?_
    by_cases hjk:j=k
    ·subst hjk;exact hjun
    ·rw [getD_set_ne true hjk] at hun;exact hun
   refine wpOpIn_mono (fun a' w' h3=>⟨fun _=>h3.2.1 hjp,ih (listed.setIfInBounds j true) a' w' hfree' (ready_mono hr (Ne.symm hji)) htail' (hp.set hoj hall') h3.1 (h3.2.1 hjp) ?_⟩) h2
   rw [Array.setIfInBounds_comm _ _ hji]
   exact h3.2.2
theorem cO {i:Nat} {oi:Oper} {v:Value} (hi:ops[i]?=some oi) (hsel:∀ (j:Nat) (o:Oper) cs b,ops[j]?=some o→o.op≠.select cs b)
  (hnd:∀ (j:Nat) (o:Oper) c,ops[j]?=some o→o.op≠.defer c) (hip:pre.contains i=false)
  (hQ:∀ c a w,Q (.panic c) (a.put oi.dst v) w→Q (.panic c) a w) :
  ∀ (fuel:Nat) (listed:Array Bool) (a:Act) (w:World),
   (∀ j oj,ops[j]?=some oj→j≠i→listed.getD j true=false→(∀ e∈oj.after,Region.binds .any e=true→e.on≠i)→oi.apart ops oj=true) →
   i∈Region.ready .any ops listed→YieldsIf P ops (fun _=>True) oi v a →
   Mw r P ops Q pre W fuel (listed.setIfInBounds i true) (a.put oi.dst v) w→Mw r P ops Q pre W (fuel+1) listed a w:=by
 have hno:∀ w:World,pre.contains i=true→W w:=fun w h=>by rw [hip] at h;cases h
 intro fuel
 induction fuel with
 | zero =>
  intro listed a w _ hr hy H
  refine ⟨fun h=>(by rw [h] at hr;cases hr),fun j hj=>?_⟩
  by_cases hji:j=i
  ·subst hji;exact YieldsIf.wpOpInS hi (fun c=>hnd j oi c hi) hy trivial ⟨hno w,H⟩
  ·have:=ready_mono hj hji
   rw [H.1] at this
   cases this
 | succ fuel ih =>
  intro listed a w hfree hr hy H
  refine ⟨fun h=>(by rw [h] at hr;cases hr),fun j hj=>?_⟩
  by_cases hji:j=i
  ·subst hji;exact YieldsIf.wpOpInS hi (fun c=>hnd j oi c hi) hy trivial ⟨hno w,H⟩
  ·have h1:=H.2 j (ready_mono hj hji)
   obtain ⟨hjun,oj,hoj,hall⟩:=mem_ready.1 hj
   have hnot:∀ e∈oj.after,Region.binds .any e=true→e.on≠i:=fun e he hb heq=>by
    have h1:=hall e he hb
    have h0:=(mem_ready.1 hr).1
    rw [heq] at h1
    rcases AaM i listed.size with h' | h'
    ·simp [h'] at h0 h1;rw [h0] at h1;cases h1
    ·simp [AcL h'] at h1
   have h2:=Vv hoj (hfree j oj hoj hji hjun hnot) (fun cs b=>hsel i oi cs b hi) (fun cs b=>hsel j oj cs b hoj) (fun c=>hnd j oj c hoj) hQ hy h1
   have hfree':∀ k ok,ops[k]?=some ok→k≠i→(listed.setIfInBounds j true).getD k true=false →
     (∀ e∈ok.after,Region.binds .any e=true→e.on≠i)→oi.apart ops ok=true:=fun k ok hk hki hun hno=>by
    refine hfree k ok hk hki ?_ hno
    by_cases hjk:j=k
    ·subst hjk;exact hjun
    ·rw [getD_set_ne true hjk] at hun;exact hun
   refine wpOpIn_mono (fun a' w' h3=>⟨h3.2.1,ih (listed.setIfInBounds j true) a' w' hfree' (ready_mono hr (Ne.symm hji)) h3.1 ?_⟩) h2
   rw [Array.setIfInBounds_comm _ _ hji]
   exact h3.2.2
end
def np (Q:Exit→Env→World→Prop):Exit→Env→World→Prop
 | .panic _,_,_=>False
 | e,E,w=>Q e E w
def A (x:Cx) (ops:Array Oper) (pre:List Nat) (W:World→Prop) (Q:Exit→Env→World→Prop) (fuel:Nat) (listed:Array Bool) (E:Env) (w:World):Prop :=
 Mu x.N ops.toList=true→Region.noSelect ops=true→(∀ (j:Nat) (o:Oper) c,ops[j]?=some o→o.op≠.defer c)→DC ops listed →
 ∀ a,Ag x.N E a→Mw x.r x.P ops (Uc x.N (np Q)) pre W fuel listed a w
def pE (ops:Array Oper):Bool:=ops.toList.all fun o=>match o.op with | .defer _=>false | _=>true
theorem eX {ops:Array Oper} (h:pE ops=true):∀ (j:Nat) (o:Oper) c,ops[j]?=some o→o.op≠.defer c:=by
 intro j o c ho hc
 have:=AbD.1 h o (by simpa using Array.mem_of_getElem? ho)
 rw [hc] at this
 cases this
def Y (x:Cx) (W:World→Prop) (o:Oper) (E:Env) (K:Value→Prop):Prop :=
 ∃ v,(∀ a,Ag x.N E a→∀ w,W w→(execOp a.eval o).run x.P w=.ok (.value v) w)∧K v
section
variable {x:Cx} {ops:Array Oper} {pre:List Nat} {W:World→Prop} {Q:Exit→Env→World→Prop} {E:Env} {w:World}
def eY (P:Program) (N:Nat) (ops:Array Oper):Bool :=
 P.follows .mixedOrders && Region.noSelect ops && pE ops && Mu N ops.toList
theorem vZ {id:Nat} {l:List Oper} (pre:List Nat) (W:World→Prop) (hm:eY x.P x.N l.toArray=true)
  (h:A x l.toArray pre W Q l.length (Array.replicate l.length false) E { w with drawn:=w.drawn+1 }):T x (.region id l.toArray true) Q E w:=by
 simp only [eY,Aah] at hm
 obtain ⟨⟨⟨h1,h2⟩,h3⟩,h4⟩:=hm
 intro a ha
 refine wpIn_mono (wpIn_region_any h1 (Rq (pre:=pre) (W:=W) (Q:=Uc x.N (np Q)) _ _ _ _ ?_)) ?_
 ·have:=h h4 h2 (eX h3) (fun j o _ hl=>by
   simp only [Array.getD_eq_getD_getElem?] at hl
   rcases AaM j l.length with h' | h'
   ·simp [h'] at hl
   ·simp [h'] at hl) a ha
  simpa using this
 ·rintro e a' w' ⟨E',hE,hq⟩
  refine ⟨E',hE,?_⟩
  cases e<;>first|exact hq|exact hq.elim
theorem Fu {fuel:Nat} {listed:Array Bool} (hr:(Region.ready .any ops listed).isEmpty=true) (h:Q .normal E w):A x ops pre W Q fuel listed E w:=fun _ _ _ _ a ha=>by
 have hr':Region.ready .any ops listed=[]:=by simpa using hr
 cases fuel with
 | zero=>exact ⟨hr',E,ha,h⟩
 | succ n=>exact ⟨fun _=>⟨E,ha,h⟩,by rw [hr'];simp⟩
def gd (ops:Array Oper) (o:Oper) (E:Env):Option Bool :=
 match o.guard with
 | none=>some true
 | some (j,b)=>((ops[j]?).bind (·.dst)).bind fun d =>
  match Em E.l d with
  | some (.bool c)=>some (c == b)
  | some _=>some false
  | none=>none
theorem Rs {o:Oper} {b:Bool} (h:gd ops o E=some b) {a:Act} {N:Nat} (ha:Ag N E a):Region.wanted o (yielded ops a.tmps)=b:=by
 unfold gd at h
 unfold Region.wanted
 cases hg:o.guard with
 | none=>rw [hg] at h;simpa using h
 | some p =>
  obtain ⟨j,want⟩:=p
  rw [hg] at h
  simp only at h ⊢
  unfold yielded
  cases hj:(ops[j]?).bind (·.dst) with
  | none=>rw [hj] at h;cases h
  | some d =>
   rw [hj] at h
   simp only [AcT] at h ⊢
   cases he:Em E.l d with
   | none=>rw [he] at h;cases h
   | some u =>
    rw [he] at h
    rw [ha.look d u he]
    cases u with
    | bool c=>simp at h ⊢;rw [← h]
    | _=>simp at h ⊢;exact h
theorem Yb {i:Nat} {o:Oper} {N:Nat} (h:Mu N ops.toList=true) (hi:ops[i]?=some o):∀ d,o.dst=some d→d<N :=
 Vu h o (by simpa using Array.mem_of_getElem? hi)
theorem Ly {N:Nat} {c:List PanicEntry} {a a':Act} {w w':World} (h:Uc N (np Q) (.panic c) a w):Uc N (np Q) (.panic c) a' w':=by
 obtain ⟨_,_,h⟩:=h
 exact h.elim
theorem DC.ready {listed:Array Bool} (h:DC ops listed) {i:Nat} (hi:i∈Region.ready .any ops listed):DC ops (listed.setIfInBounds i true):=by
 obtain ⟨_,oj,hoj,hall⟩:=mem_ready.1 hi
 exact h.set hoj hall
def Ue (ops:Array Oper) (pre:List Nat) (listed:Array Bool) (i:Nat):Bool :=
 Region.free .any ops listed i && (Region.ready .any ops listed).contains i && (List.range ops.size).all fun j=>Nat.beq j i || pre.contains j || listed.getD j true || anc ops ops.size j i
theorem Vw {listed:Array Bool} {i:Nat} (h:Ue ops pre listed i=true):Region.free .any ops listed i=true∧i∈Region.ready .any ops listed∧∀ (j:Nat) (o:Oper),ops[j]?=some o→j≠i→pre.contains j=false→listed.getD j true=false→anc ops ops.size j i=true:=by
 simp only [Ue,Aah] at h
 obtain ⟨⟨h1,h2⟩,h3⟩:=h
 refine ⟨h1,by simpa using h2,fun j o ho hji hc hun=>?_⟩
 have hj:j<ops.size:=(Array.getElem?_eq_some_iff.1 ho).1
 have h4:=AbD.1 h3 j (Aae.2 hj)
 rw [hc,hun] at h4
 simp only [Bool.or_false,Abv] at h4
 rcases h4 with h4 | h4
 ·exact absurd (Aam h4) hji
 ·exact h4
theorem wA (i:Nat) {t:Tmp} {op:Op} {ty:TypeId} {pos:String} {aft:Array Edge} {g:Option (Nat×Bool)} {D:List Deferred} {L:List (Nat×Value)} {fuel:Nat} {listed:Array Bool} (hi:ops[i]?=some ⟨some t,op,ty,pos,aft,g⟩)
  (hf:Ue ops pre listed i=true) (hg:gd ops ⟨some t,op,ty,pos,aft,g⟩ ⟨D,L⟩=some true) (hW:W w)
  (hy:Y x W ⟨some t,op,ty,pos,aft,g⟩ ⟨D,L⟩ fun v=>A x ops pre W Q fuel (listed.setIfInBounds i true) ⟨D,(t,v)::L⟩ w):A x ops pre W Q (fuel+1) listed ⟨D,L⟩ w:=by
 intro h1 h2 h3 h4 a ha
 obtain ⟨v,hv,hK⟩:=hy
 obtain ⟨f1,f2,f3⟩:=Vw hf
 exact Rr hi (Region.noSelect_spec h2) h3 (fun c a w=>Ly) fuel listed a w (Region.free_spec hi f1) f2 f3 h4
  (.inl ⟨Rs hg ha,hv a ha⟩) hW (hK h1 h2 h3 (h4.ready f2) _ (ha.put (some t) _ (Yb h1 hi)))
theorem Qm (i:Nat) {t:Tmp} {op:Op} {ty:TypeId} {pos:String} {aft:Array Edge} {g:Option (Nat×Bool)} {D:List Deferred} {L:List (Nat×Value)} {fuel:Nat} {listed:Array Bool} (hi:ops[i]?=some ⟨some t,op,ty,pos,aft,g⟩)
  (hf:(Region.free .any ops listed i && (Region.ready .any ops listed).contains i && !pre.contains i)=true) (hg:gd ops ⟨some t,op,ty,pos,aft,g⟩ ⟨D,L⟩=some true)
  (hy:Y x (fun _=>True) ⟨some t,op,ty,pos,aft,g⟩ ⟨D,L⟩ fun v=>A x ops pre W Q fuel (listed.setIfInBounds i true) ⟨D,(t,v)::L⟩ w):A x ops pre W Q (fuel+1) listed ⟨D,L⟩ w:=by
 intro h1 h2 h3 h4 a ha
 obtain ⟨v,hv,hK⟩:=hy
 simp only [Aah,Bool.not_eq_true'] at hf
 obtain ⟨⟨f1,f2⟩,f3⟩:=hf
 have f2':i∈Region.ready .any ops listed:=by simpa using f2
 exact cO hi (Region.noSelect_spec h2) h3 f3 (fun c a w=>Ly) fuel listed a w (Region.free_spec hi f1) f2'
  (.inl ⟨Rs hg ha,fun w _=>hv a ha w trivial⟩) (hK h1 h2 h3 (h4.ready f2') _ (ha.put (some t) _ (Yb h1 hi)))
theorem A_skip (i:Nat) {t:Tmp} {op:Op} {ty:TypeId} {pos:String} {aft:Array Edge} {g:Option (Nat×Bool)} {D:List Deferred} {L:List (Nat×Value)} {fuel:Nat} {listed:Array Bool} (hi:ops[i]?=some ⟨some t,op,ty,pos,aft,g⟩)
  (hf:Ue ops pre listed i=true) (hg:gd ops ⟨some t,op,ty,pos,aft,g⟩ ⟨D,L⟩=some false) (hW:W w)
  (hK:A x ops pre W Q fuel (listed.setIfInBounds i true) ⟨D,(t,undef)::L⟩ w):A x ops pre W Q (fuel+1) listed ⟨D,L⟩ w:=by
 intro h1 h2 h3 h4 a ha
 obtain ⟨f1,f2,f3⟩:=Vw hf
 exact Rr hi (Region.noSelect_spec h2) h3 (fun c a w=>Ly) fuel listed a w (Region.free_spec hi f1) f2 f3 h4
  (.inr ⟨Rs hg ha,rfl⟩) hW (hK h1 h2 h3 (h4.ready f2) _ (ha.put (some t) _ (Yb h1 hi)))
def A1 (x:Cx) (ops:Array Oper) (pre:List Nat) (W:World→Prop) (Q:Exit→Env→World→Prop) (fuel:Nat) (listed:Array Bool) (E:Env) (w:World) (i:Nat):Prop :=
 ∃ o,ops[i]?=some o∧gd ops o E=some true∧S x o (np Q) (fun v w'=>(pre.contains i=true→W w')∧A x ops pre W Q fuel (listed.setIfInBounds i true) (E.put o.dst v) w') E w
theorem pF (rs:List Nat) {fuel:Nat} {listed:Array Bool} (hr:(Region.ready .any ops listed == rs && !rs.isEmpty)=true)
  (h:∀ i∈rs,A1 x ops pre W Q fuel listed E w i):A x ops pre W Q (fuel+1) listed E w:=by
 intro h1 h2 h3 h4 a ha
 simp only [Aah,beq_iff_eq,Bool.not_eq_true'] at hr
 obtain ⟨hr,hne⟩:=hr
 refine ⟨fun h0=>?_,fun i hi=>?_⟩
 ·rw [h0] at hr;subst hr;cases hne
 ·have hi':=hi
  rw [hr] at hi
  obtain ⟨o,ho,hg,hS⟩:=h i hi
  unfold wpOpIn
  simp only [ho,Rs hg ha,if_true]
  exact hS a ha _ fun v w' ⟨hW,hA⟩=>⟨hW,hA h1 h2 h3 (h4.ready hi') _ (ha.put _ _ (Yb h1 ho))⟩
theorem pG (i:Nat) {o:Oper} {fuel:Nat} {listed:Array Bool} (hi:ops[i]?=some o) (hr:(Region.ready .any ops listed == [i])=true) (hg:gd ops o E=some true)
  (h:S x o (np Q) (fun v w'=>(pre.contains i=true→W w')∧A x ops pre W Q fuel (listed.setIfInBounds i true) (E.put o.dst v) w') E w):A x ops pre W Q (fuel+1) listed E w :=
 pF [i] (by simpa using hr) fun j hj=>by
  obtain rfl:j=i:=by simpa using hj
  exact ⟨o,hi,hg,h⟩
theorem Kl {o:Oper} {K K':Value→World→Prop} (h:S x o Q K E w) (hk:∀ v w,K v w→K' v w):S x o Q K' E w :=
 fun a ha next hn=>h a ha next fun v w' hv=>hn v w' (hk v w' hv)
theorem A_only (i:Nat) {t:Tmp} {op:Op} {ty:TypeId} {pos:String} {aft:Array Edge} {g:Option (Nat×Bool)} {D:List Deferred} {L:List (Nat×Value)} {fuel:Nat} {listed:Array Bool} (hi:ops[i]?=some ⟨some t,op,ty,pos,aft,g⟩)
  (hr:(Region.ready .any ops listed == [i])=true) (hg:gd ops ⟨some t,op,ty,pos,aft,g⟩ ⟨D,L⟩=some true)
  (h:S x ⟨some t,op,ty,pos,aft,g⟩ (np Q) (fun v w'=>W w'∧A x ops pre W Q fuel (listed.setIfInBounds i true) ⟨D,(t,v)::L⟩ w') ⟨D,L⟩ w):A x ops pre W Q (fuel+1) listed ⟨D,L⟩ w :=
 pG i hi hr hg (Kl h fun _ _ hv=>⟨fun _=>hv.1,hv.2⟩)
theorem A_tail (i:Nat) {t:Tmp} {op:Op} {ty:TypeId} {pos:String} {aft:Array Edge} {g:Option (Nat×Bool)} {D:List Deferred} {L:List (Nat×Value)} {fuel:Nat} {listed:Array Bool} (hi:ops[i]?=some ⟨some t,op,ty,pos,aft,g⟩)
  (hr:(Region.ready .any ops listed == [i])=true) (hp:pre.contains i=false) (hg:gd ops ⟨some t,op,ty,pos,aft,g⟩ ⟨D,L⟩=some true)
  (h:S x ⟨some t,op,ty,pos,aft,g⟩ (np Q) (fun v w'=>A x ops pre W Q fuel (listed.setIfInBounds i true) ⟨D,(t,v)::L⟩ w') ⟨D,L⟩ w):A x ops pre W Q (fuel+1) listed ⟨D,L⟩ w :=
 pG i hi hr hg (Kl h fun _ _ hv=>⟨fun hc=>(by rw [hp] at hc;cases hc),hv⟩)
theorem A_tailN (i:Nat) {op:Op} {ty:TypeId} {pos:String} {aft:Array Edge} {g:Option (Nat×Bool)} {fuel:Nat} {listed:Array Bool} (hi:ops[i]?=some ⟨none,op,ty,pos,aft,g⟩)
  (hr:(Region.ready .any ops listed == [i])=true) (hp:pre.contains i=false) (hg:gd ops ⟨none,op,ty,pos,aft,g⟩ E=some true)
  (h:S x ⟨none,op,ty,pos,aft,g⟩ (np Q) (fun _ w'=>A x ops pre W Q fuel (listed.setIfInBounds i true) E w') E w):A x ops pre W Q (fuel+1) listed E w :=
 pG i hi hr hg (Kl h fun _ _ hv=>⟨fun hc=>(by rw [hp] at hc;cases hc),hv⟩)
theorem Oi (i j:Nat) {t t':Tmp} {op op':Op} {ty ty':TypeId} {pos pos':String} {aft aft':Array Edge} {g g':Option (Nat×Bool)} {D:List Deferred} {L:List (Nat×Value)} {fuel:Nat} {listed:Array Bool} (hi:ops[i]?=some ⟨some t,op,ty,pos,aft,g⟩) (hj:ops[j]?=some ⟨some t',op',ty',pos',aft',g'⟩)
  (hr:(Region.ready .any ops listed == [i,j])=true) (hg:gd ops ⟨some t,op,ty,pos,aft,g⟩ ⟨D,L⟩=some true) (hg':gd ops ⟨some t',op',ty',pos',aft',g'⟩ ⟨D,L⟩=some true)
  (h:S x ⟨some t,op,ty,pos,aft,g⟩ (np Q) (fun v w'=>W w'∧A x ops pre W Q fuel (listed.setIfInBounds i true) ⟨D,(t,v)::L⟩ w') ⟨D,L⟩ w)
  (h':S x ⟨some t',op',ty',pos',aft',g'⟩ (np Q) (fun v w'=>W w'∧A x ops pre W Q fuel (listed.setIfInBounds j true) ⟨D,(t',v)::L⟩ w') ⟨D,L⟩ w):A x ops pre W Q (fuel+1) listed ⟨D,L⟩ w :=
 pF [i,j] (by simpa using hr) fun k hk=>by
  rcases (by simpa using hk:k=i∨k=j) with rfl | rfl
  ·exact ⟨_,hi,hg,Kl h fun _ _ hv=>⟨fun _=>hv.1,hv.2⟩⟩
  ·exact ⟨_,hj,hg',Kl h' fun _ _ hv=>⟨fun _=>hv.1,hv.2⟩⟩
theorem Vx {r:Option Nat} {P:Program} {ops:Array Oper} {Q:Exit→Act→World→Prop} {pre:List Nat} {W W':World→Prop} (hW:∀ w,W' w→W w):∀ (fuel:Nat) (listed:Array Bool) (a:Act) (w:World),Mw r P ops Q pre W' fuel listed a w→Mw r P ops Q pre W fuel listed a w
 | 0,_,_,_,h=>h
 | fuel+1,_,_,_,h=>⟨h.1,fun i hi=>wpOpIn_mono (fun _ _ h'=>⟨fun hp=>hW _ (h'.1 hp),Vx hW fuel _ _ _ h'.2⟩) (h.2 i hi)⟩
theorem A_more (W':World→Prop) {fuel:Nat} {listed:Array Bool} (hW:∀ w,W' w→W w) (h:A x ops pre W' Q fuel listed E w):A x ops pre W Q fuel listed E w :=
 fun h1 h2 h3 h4 a ha=>Vx hW _ _ _ _ (h h1 h2 h3 h4 a ha)
theorem S_y {o:Oper} {K:Value→World→Prop} (hW:W w) (hd:Jf o.op=true) (h:Y x W o E fun v=>K v w):S x o Q K E w:=by
 obtain ⟨v,hv,hK⟩:=h
 intro a ha next hn
 refine ⟨fun _ _=>trivial,?_⟩
 rw [Oper.semAt_eq _ _ _ (fun c hc=>by rw [hc] at hd;cases hd),hv a ha w hW]
 exact hn _ _ hK
theorem O_y {t:Tmp} {op:Op} {ty:TypeId} {pos:String} {aft:Array Edge} {l:List Oper} {D:List Deferred} {L:List (Nat×Value)} (hW:W w)
  (h:Y x W ⟨some t,op,ty,pos,aft,none⟩ ⟨D,L⟩ fun v=>O x ops Q l ⟨D,(t,v)::L⟩ w) (hd:Jf op=true:=by rfl):O x ops Q (⟨some t,op,ty,pos,aft,none⟩::l) ⟨D,L⟩ w :=
 O_s (S_y hW hd h)
theorem O_yy (d:Nat) {t:Tmp} {op:Op} {ty:TypeId} {pos:String} {aft:Array Edge} {l:List Oper} {D:List Deferred} {L:List (Nat×Value)} {j:Nat} {b:Bool} (hW:W w) (hj:(ops[j]?).bind (·.dst)=some d) (hb:Em L d=some (.bool b))
  (h:Y x W ⟨some t,op,ty,pos,aft,some (j,b)⟩ ⟨D,L⟩ fun v=>O x ops Q l ⟨D,(t,v)::L⟩ w) (hd:Jf op=true:=by rfl):O x ops Q (⟨some t,op,ty,pos,aft,some (j,b)⟩::l) ⟨D,L⟩ w :=
 Dh d hj hb (S_y hW hd h)
end
end Go.Ex
namespace Go.Ex
open Go Go.RowKit
abbrev Ah:=Nat→Option Obj
def Ah.le (G G':Ah):Prop:=∀ k o,G k=some o→G' k=some o
theorem Ah.le.refl (G:Ah):G.le G:=fun _ _ h=>h
theorem Ah.le.trans {A B C:Ah} (h:Ah.le A B) (k:Ah.le B C):Ah.le A C:=fun i o hi=>k i o (h i o hi)
def Fc (G:Ah) (a:Addr):Option Value :=
 match G a.block with
 | some (.cells c _ _)=>if a.spot.isSome then none else c[a.off]?
 | _=>none
theorem Km {G G':Ah} (h:G.le G') {a:Addr} {v:Value} (hv:Fc G a=some v):Fc G' a=some v:=by
 unfold Fc at *
 cases hb:G a.block with
 | none=>rw [hb] at hv;cases hv
 | some o=>rw [hb] at hv;rw [h _ _ hb];exact hv
inductive Res where
 | blk (b:Nat) (e:TypeId) (cs:List Value)
 | row (e:TypeId) (k:Nat) (v:Value) (n:Nat) (xs:List Value)
 | obj (b:Nat) (o:Obj)
def Res.foot:Res→Nat→Prop
 | .blk b _ _,k=>k=b
 | .row _ _ v _ _,k=>v.ownBlock=some k
 | .obj b _,k=>k=b
def Res.holds (w:World):Res→Prop
 | .blk b e cs=>w.heap[b]?=some (.cells cs.toArray e (0,0))
 | .row e k v n xs=>w.ownsRow 0 e k v n xs
 | .obj b o=>w.heap[b]?=some o
theorem Dc {w:World} {k:Nat} {o:Obj} (h:w.heap[k]?=some o):k<w.heap.size:=by
 rcases AaM k w.heap.size with hlt | hge
 ·exact hlt
 ·rw [AcL hge] at h;cases h
theorem Res.lt {w:World} {r:Res} (h:r.holds w) {k:Nat} (hk:r.foot k):k<w.heap.size:=by
 cases r with
 | blk b e cs=>cases hk;exact Dc h
 | obj b o=>cases hk;exact Dc h
 | row e s v n xs =>
  rcases h.2 with ⟨rfl,_⟩ | ⟨g,cap,cur,rfl,_,hh,_⟩
  ·cases hk
  ·have:g=k:=by simpa [Res.foot,Value.ownBlock] using hk
   subst this;exact Dc hh
theorem Res.keep {w w':World} {r:Res} (h:r.holds w) (hk:∀ k,r.foot k→w'.heap[k]?=w.heap[k]?):r.holds w':=by
 cases r with
 | blk b e cs=>exact (hk b rfl).trans h
 | obj b o=>exact (hk b rfl).trans h
 | row e s v n xs =>
  refine ⟨h.1,?_⟩
  rcases h.2 with h2 | ⟨g,cap,cur,rfl,hb,hh,hr⟩
  ·exact .inl h2
  ·exact .inr ⟨g,cap,cur,rfl,hb,(hk g rfl).trans hh,hr⟩
structure Ctx where
 w0:World
 G0:Ah
 M:Nat→Prop
structure St (c:Ctx) (G:Ah) (H:List Res) (w:World):Prop where
 os:w.os=c.w0.os
 tape:w.tape=c.w0.tape
 output:w.output=c.w0.output
 size:c.w0.heap.size≤w.heap.size
 old:∀ k,k<c.w0.heap.size→¬ c.M k→w.heap[k]?=c.w0.heap[k]?
 le:c.G0.le G
 new:∀ k o,G k=some o→c.G0 k=some o∨c.w0.heap.size≤k
 ghost:∀ k o,G k=some o→w.heap[k]?=some o
 hold:∀ r∈H,r.holds w
 off:∀ r∈H,∀ k,r.foot k→G k=none∧(c.w0.heap.size≤k∨c.M k)
 apart:H.Pairwise fun r s=>∀ k,r.foot k→¬ s.foot k
 drn:c.w0.drawn≤w.drawn
section
variable {c:Ctx} {G G':Ah} {H H':List Res} {w w':World}
theorem St.ghost_lt (h:St c G H w) {k:Nat} {o:Obj} (hk:G k=some o):k<w.heap.size:=Dc (h.ghost k o hk)
theorem St.ghost_none (h:St c G H w) {k:Nat} (hk:w.heap.size≤k):G k=none:=by
 cases hg:G k with
 | none=>rfl
 | some o=>exact absurd (h.ghost_lt hg) Bm
theorem St.cell (h:St c G H w) {a:Addr} {v:Value} (hv:Fc G a=some v):w.cell? a=some v:=by
 unfold Fc at hv
 unfold World.cell?
 cases hb:G a.block with
 | none=>rw [hb] at hv;cases hv
 | some o=>rw [hb] at hv;rw [h.ghost _ _ hb];exact hv
theorem St.drew (h:St c G H w):St c G H { w with drawn:=w.drawn+1 } :=
 ⟨h.os,h.tape,h.output,h.size,h.old,h.le,h.new,h.ghost,h.hold,h.off,h.apart,Nat.le_succ_of_le h.drn⟩
theorem St.step {H1 H2:List Res} (h:St c G (H1++H) w) (hos:w'.os=w.os) (htape:w'.tape=w.tape) (hout:w'.output=w.output) (hsize:w.heap.size≤w'.heap.size)
  (hkeep:∀ k,k<w.heap.size→(∀ r∈H1,¬ r.foot k)→w'.heap[k]?=w.heap[k]?)
  (hle:G.le G') (hnew:∀ k o,G' k=some o→G k=some o∨w.heap.size≤k) (hghost:∀ k o,G' k=some o→w.heap.size≤k→w'.heap[k]?=some o)
  (hhold:∀ r∈H2,r.holds w') (hoff:∀ r∈H2,∀ k,r.foot k→G' k=none∧(w.heap.size≤k∨∃ s∈H1,s.foot k))
  (hapart:H2.Pairwise fun r s=>∀ k,r.foot k→¬ s.foot k) (hdr:w.drawn≤w'.drawn:=by first|exact AaR _|assumption|simp):St c G' (H2++H) w':=by
 have hpw:=Abq.1 h.apart
 have hfar:∀ r∈H,∀ k,r.foot k→k<w.heap.size∧w'.heap[k]?=w.heap[k]?:=fun r hr k hk=>by
  have hlt:=Res.lt (h.hold r (AbF _ hr)) hk
  exact ⟨hlt,hkeep k hlt fun s hs hsk=>hpw.2.2 s hs r hr k hsk hk⟩
 refine ⟨hos.trans h.os,htape.trans h.tape,hout.trans h.output,Aai h.size hsize,fun k hk hM=>?_,h.le.trans hle,fun k o hk=>?_,fun k o hk=>?_,fun r hr=>?_,fun r hr k hk=>?_,?_,Aai h.drn hdr⟩
 ·rw [hkeep k (AcD hk h.size) fun r hr hrk=>?_]
  ·exact h.old k hk hM
  ·rcases (h.off r (AaY _ hr) k hrk).2 with h1 | h1
   ·omega
   ·exact hM h1
 ·rcases hnew k o hk with h1 | h1
  ·exact h.new k o h1
  ·exact .inr (Aai h.size h1)
 ·rcases AaM k w.heap.size with hlt | hge
  ·rcases hnew k o hk with h1 | h1
   ·rw [hkeep k hlt fun r hr hrk=>?_]
    ·exact h.ghost k o h1
    ·have:=(h.off r (AaY _ hr) k hrk).1
     rw [h1] at this;cases this
   ·omega
  ·exact hghost k o hk hge
 ·rcases AaS.1 hr with hr | hr
  ·exact hhold r hr
  ·exact Res.keep (h.hold r (AbF _ hr)) fun k hk=>(hfar r hr k hk).2
 ·rcases AaS.1 hr with hr | hr
  ·obtain ⟨h1,h2⟩:=hoff r hr k hk
   refine ⟨h1,?_⟩
   rcases h2 with h2 | ⟨s,hs,hsk⟩
   ·exact .inl (Aai h.size h2)
   ·exact (h.off s (AaY _ hs) k hsk).2
  ·obtain ⟨h1,h2⟩:=h.off r (AbF _ hr) k hk
   refine ⟨?_,h2⟩
   cases hg:G' k with
   | none=>rfl
   | some o =>
    rcases hnew k o hg with h3 | h3
    ·rw [h1] at h3;cases h3
    ·exact absurd (hfar r hr k hk).1 Bm
 ·refine Abq.2 ⟨hapart,hpw.2.1,fun r hr s hs k hk hsk=>?_⟩
  obtain ⟨_,h2⟩:=hoff r hr k hk
  rcases h2 with h2 | ⟨q,hq,hqk⟩
  ·exact absurd (hfar s hs k hsk).1 Bm
  ·exact hpw.2.2 q hq s hs k hqk hsk
theorem Mx {α:Type}:∀ {H:List α} (i:Nat) {r:α},H[i]?=some r→(r::H.eraseIdx i).Perm H
 | [],_,_,h=>by cases h
 | a::H,0,r,h=>by
  obtain rfl:a=r:=by simpa using h
  exact List.Perm.refl _
 | a::H,i+1,r,h=>(List.Perm.swap a r _).trans ((Mx i iB).cons a)
theorem St.front (i:Nat) {r:Res} (h:St c G H w) (hi:H[i]?=some r) (hH:r::H.eraseIdx i=H'):St c G H' w:=by
 subst hH
 have hp:(r::H.eraseIdx i).Perm H:=by
  exact Mx i hi
 refine ⟨h.os,h.tape,h.output,h.size,h.old,h.le,h.new,h.ghost,fun s hs=>h.hold s (hp.mem_iff.1 hs),fun s hs=>h.off s (hp.mem_iff.1 hs),?_,h.drn⟩
 exact (hp.pairwise_iff (fun {a b} hab k hk hk'=>hab k hk' hk)).2 h.apart
theorem St.drop {r:Res} (h:St c G (r::H) w):St c G H w :=
 ⟨h.os,h.tape,h.output,h.size,h.old,h.le,h.new,h.ghost,fun s hs=>h.hold s (AaG _ hs),fun s hs=>h.off s (AaG _ hs),h.apart.of_cons,h.drn⟩
theorem St.alloc (h:St c G H w) (o:Obj) {r:Res} (hr:r.holds (w.alloc o)) (hf:∀ k,r.foot k→k=w.heap.size):St c G (r::H) (w.alloc o):=by
 refine St.step (w:=w) (H1:=[]) (H2:=[r]) (G':=G) (w':=w.alloc o) iB rfl rfl rfl Di (fun k hk _=>Below.heap_alloc w o k hk) (Ah.le.refl G) (fun k o hk=>.inl hk) (fun k o hk hge=>by rw [h.ghost_none hge] at hk;cases hk) ?_ ?_ Di
 ·intro s hs;obtain rfl:s=r:=by simpa using hs
  exact hr
 ·intro s hs k hk;obtain rfl:s=r:=by simpa using hs
  have:=hf k hk
  subst this
  exact ⟨h.ghost_none (AaR _),.inl (AaR _)⟩
theorem St.write {r r':Res} (h:St c G (r::H) w) (hos:w'.os=w.os) (htape:w'.tape=w.tape) (hout:w'.output=w.output) (hsize:w.heap.size≤w'.heap.size)
  (hkeep:∀ k,k<w.heap.size→¬ r.foot k→w'.heap[k]?=w.heap[k]?) (hr:r'.holds w') (hf:∀ k,r'.foot k→r.foot k∨w.heap.size≤k) (hdr:w.drawn≤w'.drawn:=by first|exact AaR _|assumption|simp):St c G (r'::H) w':=by
 refine St.step (H1:=[r]) (H2:=[r']) (G':=G) iB hos htape hout hsize (fun k hk hk'=>hkeep k hk (hk' r Di)) (Ah.le.refl G) (fun k o hk=>.inl hk) (fun k o hk hge=>by rw [h.ghost_none hge] at hk;cases hk) ?_ ?_ Di
 ·intro s hs;obtain rfl:s=r':=by simpa using hs
  exact hr
 ·intro s hs k hk;obtain rfl:s=r':=by simpa using hs
  rcases hf k hk with h1 | h1
  ·exact ⟨(h.off r Di k h1).1,.inr ⟨r,by simp,h1⟩⟩
  ·exact ⟨h.ghost_none h1,.inl h1⟩
theorem St.weak (h:St c G' H' w) (h0:c.G0.le G) (hG:G.le G') (hH:H.Sublist H'):St c G H w :=
 ⟨h.os,h.tape,h.output,h.size,h.old,h0,fun k o hk=>h.new k o (hG k o hk),fun k o hk=>h.ghost k o (hG k o hk),fun r hr=>h.hold r (hH.subset hr),
  fun r hr k hk=>by
   obtain ⟨h1,h2⟩:=h.off r (hH.subset hr) k hk
   refine ⟨?_,h2⟩
   cases hg:G k with
   | none=>rfl
   | some o=>(rw [hG k o hg] at h1;cases h1)
  ,h.apart.sublist hH,h.drn⟩
theorem St.done (h:St c G H w):St c G [] w:=h.weak h.le (Ah.le.refl G) (List.nil_sublist _)
theorem St.nilRow (h:St c G H w) (e k:Nat):St c G (.row e k (.slice none 0 0) 0 []::H) w :=
 ⟨h.os,h.tape,h.output,h.size,h.old,h.le,h.new,h.ghost,fun r hr=>by
   rcases AaV.1 hr with rfl | hr
   ·exact World.ownsRow_nil w 0 e k
   ·exact h.hold r hr,fun r hr j hj=>by
   rcases AaV.1 hr with rfl | hr
   ·cases hj
   ·exact h.off r hr j hj,AbO.2 ⟨fun s _ k hk=>(by cases hk),h.apart⟩,h.drn⟩
open Classical in
theorem St.freeze {r:Res} (h:St c G (r::H) w) (hM:∀ k,r.foot k→¬ c.M k) :
  ∃ G',G.le G'∧(∀ k,r.foot k→G' k=w.heap[k]?)∧St c G' H w:=by
 refine ⟨fun k=>if r.foot k then w.heap[k]? else G k,fun k o hk=>?_,fun k hk=>by simp [hk],?_⟩
 ·have:¬ r.foot k:=fun hf=>by
   have:=(h.off r Di k hf).1
   rw [hk] at this;cases this
  simpa [this] using hk
 ·have hpw:=AbO.1 h.apart
  refine ⟨h.os,h.tape,h.output,h.size,h.old,fun k o hk=>?_,fun k o hk=>?_,fun k o hk=>?_,fun s hs=>h.hold s (by simp [hs]),fun s hs k hk=>?_,hpw.2,h.drn⟩
  ·have hg:=h.le k o hk
   have:¬ r.foot k:=fun hf=>by
    have:=(h.off r Di k hf).1
    rw [hg] at this;cases this
   simpa [this] using hg
  ·by_cases hf:r.foot k
   ·rcases (h.off r Di k hf).2 with h1 | h1
    ·exact .inr h1
    ·exact absurd h1 (hM k hf)
   ·simp [hf] at hk;exact h.new k o hk
  ·by_cases hf:r.foot k
   ·simpa [hf] using hk
   ·simp [hf] at hk;exact h.ghost k o hk
  ·have hnf:¬ r.foot k:=fun hf=>hpw.1 s hs k hf hk
   simp only [hnf,if_false]
   exact h.off s (by simp [hs]) k hk
end
section
variable {x:Cx} {ops:Array Oper} {Q:Exit→Env→World→Prop} {E:Env} {w:World} {c:Ctx} {G G':Ah} {H H':List Res}
theorem Bg {id:Nat} {l:List Oper} (pre:List Nat) (_hs:St c G H w) (hm:eY x.P x.N l.toArray=true)
  (h:A x l.toArray pre (St c G H) Q l.length (Array.replicate l.length false) E { w with drawn:=w.drawn+1 }):T x (.region id l.toArray true) Q E w:=vZ pre _ hm h
theorem Ai {pre:List Nat} {fuel:Nat} {listed:Array Bool} (_hs:St c G' H' w) (h0:c.G0.le G) (hG:G.le G') (hH:H.Sublist H') (h:A x ops pre (St c G' H') Q fuel listed E w):St c G H w∧A x ops pre (St c G H) Q fuel listed E w :=
 ⟨_hs.weak h0 hG hH,A_more _ (fun _ h=>h.weak h0 hG hH) h⟩
end
def Sl (G:Ah) (v:Value) (k n:Nat) (xs:List Value):Prop :=
 ∃ A c,v=.slice A n c∧xs.length=n*k∧n≤c∧c≤maxLen∧(0<n→∃ a,A=some a∧∀ j u,xs[j]?=some u→Fc G (a.add j)=some u)
theorem Sl.mono {G G':Ah} (h:G.le G') {v:Value} {k n:Nat} {xs:List Value} (hs:Sl G v k n xs):Sl G' v k n xs:=by
 obtain ⟨A,c,h1,h2,h3,h4,h5⟩:=hs
 refine ⟨A,c,h1,h2,h3,h4,fun hn=>?_⟩
 obtain ⟨a,ha,hc⟩:=h5 hn
 exact ⟨a,ha,fun j u hj=>Km h (hc j u hj)⟩
theorem Sl.nil (G:Ah) (k:Nat):Sl G (.slice none 0 0) k 0 []:=⟨none,0,rfl,by simp,AaR _,Aas _,fun h=>absurd h Bm⟩
theorem Sl.len {G:Ah} {v:Value} {k n:Nat} {xs:List Value} (h:Sl G v k n xs):xs.length=n*k:=by obtain ⟨_,_,_,h,_⟩:=h;exact h
theorem Ru (a:Addr) (i j:Nat):(a.add i).add j=a.add (i+j):=by
 unfold Addr.add
 by_cases hi:i=0<;>by_cases hj:j=0<;>simp [hi,hj,Nat.add_assoc]
theorem Oj (a:Addr) (i:Nat):(a.add i).block=a.block:=by
 unfold Addr.add;split<;>rfl
theorem Sl.of_row {G:Ah} {w:World} {e:TypeId} {k n:Nat} {v:Value} {xs:List Value} (h:w.ownsRow 0 e k v n xs) (hG:∀ b,v.ownBlock=some b→G b=w.heap[b]?):Sl G v k n xs:=by
 rcases h.2 with ⟨rfl,rfl⟩ | ⟨g,cap,cur,rfl,_,hh,hnc,hcm,hsz,htake⟩
 ·have:xs=[]:=AbR (by simpa using h.1)
  subst this
  exact Sl.nil G k
 ·refine ⟨some ⟨g,0,none⟩,cap,rfl,h.1,hnc,hcm,fun _=>⟨_,rfl,fun j u hj=>?_⟩⟩
  have hg:=(hG g rfl).trans hh
  unfold Fc
  rw [Oj,hg]
  have hadd:((⟨g,0,none⟩:Addr).add j).off=j∧((⟨g,0,none⟩:Addr).add j).spot=none:=by
   unfold Addr.add;split
   ·rename_i h0;subst h0;exact ⟨rfl,rfl⟩
   ·exact ⟨by simp,rfl⟩
  simp only [hadd.1,hadd.2,Option.isSome_none,AbK,if_false]
  rw [← htake] at hj
  have hjl:j<n*k:=by
   rcases AaM j (n*k) with h' | h'
   ·exact h'
   ·rw [AaL tE] at hj;cases hj
  rw [AbJ hjl] at hj
  simpa using hj
theorem Sl.of_blk {G:Ah} {b e:Nat} {cs:List Value} {f:Nat×Nat} (h:G b=some (.cells cs.toArray e f)) {k n:Nat} (hl:cs.length=n*k) (hm:n≤maxLen):Sl G (.slice (some ⟨b,0,none⟩) n n) k n cs:=by
 refine ⟨some ⟨b,0,none⟩,n,rfl,hl,AaR _,hm,fun _=>⟨_,rfl,fun j u hj=>?_⟩⟩
 have hadd:((⟨b,0,none⟩:Addr).add j).off=j∧((⟨b,0,none⟩:Addr).add j).spot=none:=by
  unfold Addr.add;split
  ·rename_i h0;subst h0;exact ⟨rfl,rfl⟩
  ·exact ⟨by simp,rfl⟩
 unfold Fc
 rw [Oj,h]
 simp only [hadd.1,hadd.2,Option.isSome_none,AbK,if_false]
 simpa using hj
def Bj (H:List Res):Nat→Prop:=fun k=>∃ r∈H,r.foot k
def Ba (P:Program) (f:FuncId) (args:List Value) (G:Ah) (H:List Res) (R:Value→Ah→List Res→Prop):Prop :=
 ∀ w,St ⟨w,G,Bj H⟩ G H w→Calls P f args.toArray w fun e w'=>∃ v G' H',e=.returned v∧St ⟨w,G,Bj H⟩ G' H' w'∧R v G' H'
theorem Ba.mono {P:Program} {f:FuncId} {args:List Value} {G:Ah} {H:List Res} {R R':Value→Ah→List Res→Prop} (h:Ba P f args G H R)
  (hr:∀ v G' H',G.le G'→R v G' H'→R' v G' H'):Ba P f args G H R':=fun w hw =>
 (h w hw).mono fun _ _ ⟨v,G',H',he,hs,hR⟩=>⟨v,G',H',he,hs,hr v G' H' hs.le hR⟩
theorem Ba.call {P:Program} {f:FuncId} {args:List Value} {G:Ah} {H1 H:List Res} {R:Value→Ah→List Res→Prop} (h:Ba P f args G H1 R) {c:Ctx} {w:World} (hs:St c G (H1++H) w) :
  Calls P f args.toArray w fun e w'=>∃ v G' H',e=.returned v∧G.le G'∧St c G' (H'++H) w'∧R v G' H':=by
 have hpw:=Abq.1 hs.apart
 have h0:St ⟨w,G,Bj H1⟩ G H1 w:=⟨rfl,rfl,rfl,AaR _,fun _ _ _=>rfl,Ah.le.refl G,fun k o hk=>.inl hk,hs.ghost,fun r hr=>hs.hold r (AaY _ hr),
  fun r hr k hk=>⟨(hs.off r (AaY _ hr) k hk).1,.inr ⟨r,hr,hk⟩⟩,hpw.1,AaR _⟩
 refine (h w h0).mono fun e w' ⟨v,G',H',he,h',hR⟩=>⟨v,G',H',he,h'.le,?_,hR⟩
 refine St.step hs h'.os h'.tape h'.output h'.size (fun k hk hk'=>h'.old k hk (fun ⟨r,hr,hrk⟩=>hk' r hr hrk)) h'.le h'.new (fun k o hk _=>h'.ghost k o hk) h'.hold ?_ h'.apart h'.drn
 intro r hr k hk
 obtain ⟨h1,h2⟩:=h'.off r hr k hk
 exact ⟨h1,h2⟩
theorem noM {w:World} {G:Ah} {v:Value}:∀ b,v.ownBlock=some b→¬ (⟨w,G,Bj []⟩:Ctx).M b:=fun _ _ h=>by
 obtain ⟨r,hr,_⟩:=h
 cases hr
def Rt (P:Program) (N:Nat) (fn:Func) (R:Value→World→Prop):Exit→Env→World→Prop
 | .normal,E,w|.ret,E,w=>E.d=[]∧∃ v,(∀ a,Ag N E a→(results fn a.tmps).run P w=.ok v w)∧R v w
 | _,_,_=>False
def Nu:Nat→List Value→List (Nat×Value)
 | _,[]=>[]
 | i,v::vs=>(i,v)::Nu (i+1) vs
theorem Pj:∀ (vs:List Value) (i t:Nat) (v:Value),Em (Nu i vs) t=some v→i≤t∧vs[t-i]?=some v
 | [],_,_,_,h=>by cases h
 | u::vs,i,t,v,h=>by
  simp only [Nu,Em] at h
  cases hb:Nat.beq i t with
  | true =>
   rw [hb] at h
   obtain rfl:=Aam hb
   simpa using h
  | false =>
   rw [hb] at h
   have hne:=Nat.ne_of_beq_eq_false hb
   obtain ⟨h1,h2⟩:=Pj vs (i+1) t v iB
   refine ⟨by omega,?_⟩
   rw [show t-i=(t-(i+1))+1 by omega]
   simpa using h2
theorem mN {P:Program} {f:FuncId} {fn:Func} {N:Nat} {c:Code} {args:List Value} {w:World} {R:Value→World→Prop} {L:List (Nat×Value)}
  (hf:P.funcs[f]?=some fn) (hb:fn.body=some c) (hN:fn.ntmps=N) (hn:args.length≤N) (hL:Nu 0 args=L)
  (h:T ⟨P,N,none⟩ c (Rt P N fn R) ⟨[],L⟩ w):Calls P f args.toArray w fun e w'=>∃ v,e=.returned v∧R v w':=by
 subst hL
 refine (callsIn_wide (n:=0)).1 (callsIn_of_wp hf hb trivial ?_ rfl)
 have ha:Ag N ⟨[],Nu 0 args⟩ { tmps:=args.toArray++Array.replicate (fn.ntmps-args.toArray.size) undef,defers:=[] }:=by
  refine ⟨by simp [hN];omega,rfl,fun t v ht=>?_⟩
  obtain ⟨_,h2⟩:=Pj args 0 t v ht
  have hlt:t<args.length:=by
   rcases AaM t args.length with h' | h'
   ·exact h'
   ·rw [AaL Bm] at h2;cases h2
  rw [Array.getElem?_append_left (by simpa using hlt)]
  simpa using h2
 refine wpIn_mono (h _ ha) ?_
 rintro e a' w' ⟨E,hE,hq⟩
 cases e<;>simp only [Rt] at hq<;>try exact hq.elim
 all_goals
  obtain ⟨hd,v,hv,hR⟩:=hq
  exact ⟨hE.defs.trans hd,v,hv a' hE,v,rfl,hR⟩
theorem Ba.of_T {P:Program} {f:FuncId} {fn:Func} {N:Nat} {c:Code} {args:List Value} {G:Ah} {H:List Res} {R:Value→Ah→List Res→Prop} (L:List (Nat×Value))
  (hf:P.funcs[f]?=some fn) (hb:fn.body=some c) (hN:fn.ntmps=N) (hn:args.length≤N) (hL:Nu 0 args=L)
  (h:∀ w,St ⟨w,G,Bj H⟩ G H w→T ⟨P,N,none⟩ c (Rt P N fn fun v w'=>∃ G' H',St ⟨w,G,Bj H⟩ G' H' w'∧R v G' H') ⟨[],L⟩ w):Ba P f args G H R:=fun w hw =>
 (mN hf hb hN hn hL (h w hw)).mono fun _ _ ⟨v,he,G',H',hs,hR⟩=>⟨v,G',H',he,hs,hR⟩
theorem lSa {α:Type} (a b:List α):a.Sublist (a++b):=List.sublist_append_left a b
theorem lSr {α:Type} (a:List α):a.Sublist a:=List.Sublist.refl a
theorem gLr (G:Ah):G.le G:=Ah.le.refl G
section
variable {x:Cx} {W:World→Prop} {E:Env} {K:Value→Prop} {d:Option Tmp} {ty:TypeId} {pos:String} {aft:Array Edge} {g:Option (Nat×Bool)}
theorem Du {o:Oper} {v:Value} (h:∀ a,Ag x.N E a→∀ w,W w→(execOp a.eval o).run x.P w=.ok (.value v) w) (k:K v):Y x W o E K:=⟨v,h,k⟩
theorem Ok {o:Operand} {v:Value} (h:ev E o=some v) (k:K v):Y x W ⟨d,.move o,ty,pos,aft,g⟩ E K :=
 Du (v:=v) (fun a ha w _=>by simp [execOp,ha.ev h]) k
theorem iF {o:Operand} {v:Value} (h:ev E o=some v) (k:K v):Y x W ⟨d,.assign o,ty,pos,aft,g⟩ E K :=
 Du (v:=v) (fun a ha w _=>by simp [execOp,ha.ev h]) k
theorem Y_pickT {c o p:Operand} {v:Value} (hc:ev E c=some (.bool true)) (h:ev E o=some v) (k:K v):Y x W ⟨d,.pick c o p,ty,pos,aft,g⟩ E K :=
 Du (v:=v) (fun a ha w _=>by simp [execOp,ha.ev h,ha.ev hc,asBool]) k
theorem Y_pickF {c o p:Operand} {v:Value} (hc:ev E c=some (.bool false)) (h:ev E p=some v) (k:K v):Y x W ⟨d,.pick c o p,ty,pos,aft,g⟩ E K :=
 Du (v:=v) (fun a ha w _=>by simp [execOp,ha.ev h,ha.ev hc,asBool]) k
theorem Ci {o:Operand} {p:Addr} (h:ev E o=some (.pointer (some p))) (k:K (.pointer (some p))):Y x W ⟨d,.nilCheck o,ty,pos,aft,g⟩ E K :=
 Du (v:=.pointer (some p)) (fun a ha w _=>by simp [execOp,ha.ev h]) k
theorem tF {o:Operand} {i:Nat} {vs:Array Value} {v:Value} (h:ev E o=some (.tuple vs)) (hi:vs[i]?=some v) (k:K v):Y x W ⟨d,.extract o i,ty,pos,aft,g⟩ E K :=
 Du (v:=v) (fun a ha w _=>by simp [execOp,ha.ev h,Instr.extract,hi]) k
section
variable {xt yt:TypeId} {o p:Operand} {kd:IntKind} {a b:Int}
theorem Gl {op:BinOp} {w:World} {r:Value} (hop:op=.add∨op=.sub∨op=.mul∨op=.and∨op=.or∨op=.xor∨op=.andNot∨op=.quo∨op=.rem∨op=.lss∨op=.leq∨op=.gtr∨op=.geq∨op=.eql∨op=.neq)
  (h:(binOp op xt (.int kd a) (.int kd b)).run x.P w=.ok r w) {f:Act} (ho:f.eval o=.int kd a) (hp:f.eval p=.int kd b) :
  (execOp f.eval ⟨d,.binOp op xt o p yt,ty,pos,aft,g⟩).run x.P w=.ok (.value r) w:=by
 have he:eqGuard op xt o p (.int kd a) (.int kd b)=pure ():=by rcases hop with h|h|h|h|h|h|h|h|h|h|h|h|h|h|h<;>subst h<;>rfl
 simp only [execOp,ho,hp,he]
 simp [h]
theorem mO (h1:ev E o=some (.int kd a)) (h2:ev E p=some (.int kd b)) (k:K (.int kd (kd.wrap (a+b)))):Y x W ⟨d,.binOp .add xt o p yt,ty,pos,aft,g⟩ E K :=
 Du (v:=.int kd (kd.wrap (a+b))) (fun f hf w _=>Gl Di (by simp [binOp,Op.intArith]) (hf.ev h1) (hf.ev h2)) k
theorem mP (h1:ev E o=some (.int kd a)) (h2:ev E p=some (.int kd b)) (k:K (.int kd (kd.wrap (a-b)))):Y x W ⟨d,.binOp .sub xt o p yt,ty,pos,aft,g⟩ E K :=
 Du (v:=.int kd (kd.wrap (a-b))) (fun f hf w _=>Gl Di (by simp [binOp,Op.intArith]) (hf.ev h1) (hf.ev h2)) k
theorem wB (h1:ev E o=some (.int kd a)) (h2:ev E p=some (.int kd b)) (k:K (.int kd (kd.wrap (a*b)))):Y x W ⟨d,.binOp .mul xt o p yt,ty,pos,aft,g⟩ E K :=
 Du (v:=.int kd (kd.wrap (a*b))) (fun f hf w _=>Gl Di (by simp [binOp,Op.intArith]) (hf.ev h1) (hf.ev h2)) k
theorem Ed {n:Int} (h : -9223372036854775808≤n∧n≤9223372036854775807):IntKind.i64.wrap n=n:=by rw [IntKind.wrap_i64];omega
theorem Kn {c:Int} (h1:ev E o=some (.int .i64 a)) (h2:ev E p=some (.int .i64 b)) (hc:a+b=c) (hb : -9223372036854775808≤c∧c≤9223372036854775807) (k:K (.int .i64 c)):Y x W ⟨d,.binOp .add xt o p yt,ty,pos,aft,g⟩ E K :=
 mO h1 h2 (by rw [hc,Ed hb];exact k)
theorem Ll {c:Int} (h1:ev E o=some (.int .i64 a)) (h2:ev E p=some (.int .i64 b)) (hc:a-b=c) (hb : -9223372036854775808≤c∧c≤9223372036854775807) (k:K (.int .i64 c)):Y x W ⟨d,.binOp .sub xt o p yt,ty,pos,aft,g⟩ E K :=
 mP h1 h2 (by rw [hc,Ed hb];exact k)
theorem iG {c:Int} (h1:ev E o=some (.int .i64 a)) (h2:ev E p=some (.int .i64 b)) (hc:a*b=c) (hb : -9223372036854775808≤c∧c≤9223372036854775807) (k:K (.int .i64 c)):Y x W ⟨d,.binOp .mul xt o p yt,ty,pos,aft,g⟩ E K :=
 wB h1 h2 (by rw [hc,Ed hb];exact k)
theorem pH {c:Int} (h1:ev E o=some (.int .i64 a)) (h2:ev E p=some (.int .i64 b)) (ha:0≤a∧a≤9223372036854775807) (hb:0<b) (hc:a / b=c) (k:K (.int .i64 c)):Y x W ⟨d,.binOp .quo xt o p yt,ty,pos,aft,g⟩ E K:=by
 have h3:(0:Int)≤a / b:=Int.ediv_nonneg ha.1 Bm
 have h4:a / b≤a:=Int.ediv_le_self b ha.1
 have e:(IntKind.i64.wrap (a.tdiv b))=c:=by rw [Int.tdiv_eq_ediv_of_nonneg ha.1,Ed Bm,hc]
 exact Du (v:=.int .i64 c) (fun f hf w _=>Gl Di (by simp [binOp,Op.intDiv,show b≠0 by omega,e]) (hf.ev h1) (hf.ev h2)) k
theorem Y_quoU {c:Int} (h1:ev E o=some (.int .u8 a)) (h2:ev E p=some (.int .u8 b)) (ha:0≤a∧a≤255) (hb:0<b) (hc:a / b=c) (k:K (.int .u8 c)):Y x W ⟨d,.binOp .quo xt o p yt,ty,pos,aft,g⟩ E K:=by
 have h3:(0:Int)≤a / b:=Int.ediv_nonneg ha.1 Bm
 have h4:a / b≤a:=Int.ediv_le_self b ha.1
 have e:(IntKind.u8.wrap (a.tdiv b))=c:=by rw [Int.tdiv_eq_ediv_of_nonneg ha.1,IntKind.wrap_u8];omega
 exact Du (v:=.int .u8 c) (fun f hf w _=>Gl Di (by simp [binOp,Op.intDiv,show b≠0 by omega,e]) (hf.ev h1) (hf.ev h2)) k
theorem Gq {c:Int} (h1:ev E o=some (.int kd a)) (h2:ev E p=some (.int kd b)) (ha:0≤a) (hb:b≠0) (hc:a % b=c) (k:K (.int kd c)):Y x W ⟨d,.binOp .rem xt o p yt,ty,pos,aft,g⟩ E K:=by
 have e:a.tmod b=c:=by rw [Int.tmod_eq_emod_of_nonneg ha,hc]
 exact Du (v:=.int kd c) (fun f hf w _=>Gl Di (by simp [binOp,Op.intDiv,hb,e]) (hf.ev h1) (hf.ev h2)) k
def Rv (op:BinOp) (kd:IntKind) (a b:Int):Int :=
 match op with
 | .and=>kd.wrap (BitVec.ofInt kd.bits a &&& BitVec.ofInt kd.bits b).toNat
 | .or=>kd.wrap (BitVec.ofInt kd.bits a ||| BitVec.ofInt kd.bits b).toNat
 | .xor=>kd.wrap (BitVec.ofInt kd.bits a ^^^ BitVec.ofInt kd.bits b).toNat
 | _=>kd.wrap (BitVec.ofInt kd.bits a &&& ~~~BitVec.ofInt kd.bits b).toNat
theorem eZ {op:BinOp} {c:Int} (h1:ev E o=some (.int kd a)) (h2:ev E p=some (.int kd b)) (hop:op=.and∨op=.or∨op=.xor∨op=.andNot) (hc:Rv op kd a b=c) (k:K (.int kd c)):Y x W ⟨d,.binOp op xt o p yt,ty,pos,aft,g⟩ E K:=by
 subst hc
 refine Du (v:=.int kd (Rv op kd a b)) (fun f hf w _=>Gl (by rcases hop with h|h|h|h<;>subst h<;>simp) ?_ (hf.ev h1) (hf.ev h2)) k
 rcases hop with h|h|h|h<;>subst h<;>simp [binOp,Op.intBits,Rv]
theorem Y_shl {kd':IntKind} {c:Int} (h1:ev E o=some (.int kd a)) (h2:ev E p=some (.int kd' b)) (hb:0≤b) (hc:kd.wrap (a*2 ^ (min b.toNat kd.bits))=c) (k:K (.int kd c)):Y x W ⟨d,.binOp .shl xt o p yt,ty,pos,aft,g⟩ E K:=by
 refine Du (v:=.int kd c) (fun f hf w _=>?_) k
 have he:eqGuard .shl xt o p (.int kd a) (.int kd' b)=pure ():=rfl
 simp only [execOp,hf.ev h1,hf.ev h2,he]
 simp [binOp,Op.shift,show ¬ b<0 by omega,hc]
theorem Mh {kd':IntKind} {c:Int} (h1:ev E o=some (.int kd a)) (h2:ev E p=some (.int kd' b)) (hb:0≤b) (hc:a.fdiv (2 ^ (min b.toNat kd.bits))=c) (k:K (.int kd c)):Y x W ⟨d,.binOp .shr xt o p yt,ty,pos,aft,g⟩ E K:=by
 refine Du (v:=.int kd c) (fun f hf w _=>?_) k
 have he:eqGuard .shr xt o p (.int kd a) (.int kd' b)=pure ():=rfl
 simp only [execOp,hf.ev h1,hf.ev h2,he]
 simp [binOp,Op.shift,show ¬ b<0 by omega,hc]
@[reducible] def Jg (op:BinOp) (a b:Int):Prop :=
 match op with
 | .eql=>a=b|.neq=>a≠b|.lss=>a<b|.leq=>a≤b|.gtr=>b<a|_=>b≤a
def Vy:BinOp→Bool
 | .eql|.neq|.lss|.leq|.gtr|.geq=>true
 | _=>false
theorem My {op:BinOp} {t:Bool} (h1:ev E o=some (.int kd a)) (h2:ev E p=some (.int kd b)) (hop:Vy op=true) (ht:Jg op a b↔t=true) (k:K (.bool t)):Y x W ⟨d,.binOp op xt o p yt,ty,pos,aft,g⟩ E K:=by
 refine Du (v:=.bool t) (fun f hf w _=>Gl ?_ ?_ (hf.ev h1) (hf.ev h2)) k
 ·cases op<;>simp [Vy] at hop<;>simp
 ·cases op<;>simp [Vy] at hop<;>simp only [Jg] at ht<;>simp [binOp,Op.intCmp]<;>cases t<;>simp_all
theorem Hn {op:BinOp} (h1:ev E o=some (.int kd a)) (h2:ev E p=some (.int kd b)) (hop:Vy op=true) (ht:Jg op a b) (k:K (.bool true)):Y x W ⟨d,.binOp op xt o p yt,ty,pos,aft,g⟩ E K :=
 My h1 h2 hop (by simp [ht]) k
theorem Mz {op:BinOp} (h1:ev E o=some (.int kd a)) (h2:ev E p=some (.int kd b)) (hop:Vy op=true) (ht:¬ Jg op a b) (k:K (.bool false)):Y x W ⟨d,.binOp op xt o p yt,ty,pos,aft,g⟩ E K :=
 My h1 h2 hop (by simp [ht]) k
theorem Qn {op:BinOp} (h1:ev E o=some (.int kd a)) (h2:ev E p=some (.int kd b)) (hop:Vy op=true) (hT:Jg op a b→K (.bool true)) (hF:¬ Jg op a b→K (.bool false)):Y x W ⟨d,.binOp op xt o p yt,ty,pos,aft,g⟩ E K:=by
 by_cases h:Jg op a b
 ·exact Hn h1 h2 hop h (hT h)
 ·exact Mz h1 h2 hop h (hF h)
end
theorem Y_not {o:Operand} {t:Bool} {xt:TypeId} (h:ev E o=some (.bool t)) (k:K (.bool !t)):Y x W ⟨d,.unOp .not xt o,ty,pos,aft,g⟩ E K :=
 Du (v:=.bool !t) (fun a ha w _=>by simp [execOp,ha.ev h,Op.unary]) k
theorem Dj {o:Operand} {src dst:TypeId} {kd kd':IntKind} {n c:Int} {td:TypeDesc} (hs:x.P.underlying src=some td) (hu:x.P.underlying dst=some (.int kd')) (h:ev E o=some (.int kd n)) (hc:kd'.wrap n=c)
  (k:K (.int kd' c)):Y x W ⟨d,.convert src dst o,ty,pos,aft,g⟩ E K :=
 Du (v:=.int kd' c) (fun a ha w _=>by
  have h1:(underlying src).run x.P w=.ok td w:=run_underlying hs w
  have h2:(underlying dst).run x.P w=.ok (.int kd') w:=run_underlying hu w
  simp only [execOp,convert,ha.ev h]
  cases td<;>simp [h1,h2,Conv.intToInt,hc]) k
theorem wC {o:Operand} {t e:TypeId} {A:Option Addr} {n c:Nat} (hu:x.P.underlying t=some (.slice e)) (h:ev E o=some (.slice A n c)) (k:K (.int .i64 (n:Int))) :
  Y x W ⟨d,.call { callee:=.builtin .len,args:=#[o],argTypes:=#[t] },ty,pos,aft,g⟩ E K :=
 Du (v:=.int .i64 (n:Int)) (fun a ha w _=>by
  simp [execOp,resolve,invoke,builtin,Builtin.len_,ha.ev h,run_underlying hu,goInt]) k
theorem Y_max {o p:Operand} {t u:TypeId} {kd:IntKind} {m n c:Int} (h1:ev E o=some (.int kd m)) (h2:ev E p=some (.int kd n)) (hc:max m n=c) (k:K (.int kd c)) :
  Y x W ⟨d,.call { callee:=.builtin .max,args:=#[o,p],argTypes:=#[t,u] },ty,pos,aft,g⟩ E K :=
 Du (v:=.int kd c) (fun a ha w _=>by
  have:(if n>m then n else m)=c:=by rw [← hc];split<;>omega
  simp [execOp,resolve,invoke,builtin,Builtin.max_,Builtin.max2,ha.ev h1,ha.ev h2,this]) k
def Mi (P:Program) (s i:Nat):Option Nat :=
 match P.underlying s with
 | some (.struct fs)=>(fs[i]?).bind fun f=>(P.info? f.type).bind fun t=>if t.size=0 then none else some f.offset
 | _=>none
theorem Fq {o:Operand} {s i b j n:Nat} {m:Nat} (hf:Mi x.P s i=some n) (h:ev E o=some (.pointer (some ⟨b,j,none⟩))) (hm:j+n=m) (k:K (.pointer (some ⟨b,m,none⟩))) :
  Y x W ⟨d,.fieldAddr s o i,ty,pos,aft,g⟩ E K :=
 Du (v:=.pointer (some ⟨b,m,none⟩)) (fun a ha w _=>by
  unfold Mi at hf
  cases hu:x.P.underlying s with
  | none=>rw [hu] at hf;cases hf
  | some td =>
   rw [hu] at hf
   cases td with
   | struct fs =>
    simp only at hf
    cases hi:fs[i]? with
    | none=>rw [hi] at hf;cases hf
    | some f =>
     rw [hi] at hf
     simp only [AcT] at hf
     cases ht:x.P.info? f.type with
     | none=>rw [ht] at hf;cases hf
     | some t =>
      rw [ht] at hf
      simp only [AcT] at hf
      split at hf
      ·cases hf
      ·rename_i hz
       injection hf with hf
       have hadd:(⟨b,j,none⟩:Addr).add f.offset=⟨b,m,none⟩:=by
        subst hm hf
        unfold Addr.add;split
        ·rename_i h0;simp [h0]
        ·rfl
       simp [execOp,ha.ev h,Instr.fieldAt,Instr.sureAddr,run_underlying hu,hi,fieldPlace,sizeOf,typeInfo,ht,hz,hadd]
   | _=>simp at hf) k
theorem Ej {o:Operand} {t e b j:Nat} {c:Ctx} {G:Ah} {H:List Res} {cs:List Value} {v:Value} (i:Nat) (hA:∀ w,(isAgg t).run x.P w=.ok false w) (h:ev E o=some (.pointer (some ⟨b,j,none⟩)))
  (hi:H[i]?=some (.blk b e cs)) (hj:cs[j]?=some v) (k:K v):Y x (St c G H) ⟨d,.load t o,ty,pos,aft,g⟩ E K :=
 Du (v:=v) (fun a ha w hw=>by
  have hb:w.heap[b]?=some (.cells cs.toArray e (0,0)):=hw.hold _ (AaF hi)
  have hc:w.cell? ⟨b,j,none⟩=some v:=by simp [World.cell?,hb,hj]
  simp [execOp,ha.ev h,Instr.loadAt,Instr.sureAddr,loadVar,hA w,hc]) k
theorem Yd {o:Operand} {t:Nat} {p:Addr} {c:Ctx} {G:Ah} {H:List Res} {v:Value} (hA:∀ w,(isAgg t).run x.P w=.ok false w) (h:ev E o=some (.pointer (some p)))
  (hp:Fc G p=some v) (k:K v):Y x (St c G H) ⟨d,.load t o,ty,pos,aft,g⟩ E K :=
 Du (v:=v) (fun a ha w hw=>by
  have hc:=hw.cell hp
  simp [execOp,ha.ev h,Instr.loadAt,Instr.sureAddr,loadVar,hA w,hc]) k
theorem Hd {P:Program} {t n:Nat} {p:Addr} {cs:List Value} {w:World} (hA:(isAgg t).run P w=.ok true w) (hS:(sizeOf t).run P w=.ok n w) (hn:cs.length=n)
  (hc:∀ j u,cs[j]?=some u→w.cell? (p.add j)=some u):(loadVar t p).run P w=.ok (.agg cs.toArray) w:=by
 subst hn
 have:=run_loadCells_list (P:=P) w p cs hc
 simp [loadVar,hA,hS,this]
theorem pI {o:Operand} {t e b j n:Nat} {c:Ctx} {G:Ah} {H:List Res} {cs vs:List Value} (i:Nat) (hA:∀ w,(isAgg t).run x.P w=.ok true w) (hS:∀ w,(sizeOf t).run x.P w=.ok n w) (h:ev E o=some (.pointer (some ⟨b,j,none⟩)))
  (hi:H[i]?=some (.blk b e cs)) (hv:(cs.drop j).take n=vs) (hn:vs.length=n) (k:K (.agg vs.toArray)):Y x (St c G H) ⟨d,.load t o,ty,pos,aft,g⟩ E K :=
 Du (v:=.agg vs.toArray) (fun a ha w hw=>by
  have hb:w.heap[b]?=some (.cells cs.toArray e (0,0)):=hw.hold _ (AaF hi)
  have hl:=Hd (P:=x.P) (t:=t) (p:=⟨b,j,none⟩) (hA w) (hS w) hn (fun q u hq=>by
   have hadd:((⟨b,j,none⟩:Addr).add q)=⟨b,j+q,none⟩:=by
    unfold Addr.add;split
    ·rename_i h0;simp [h0]
    ·rfl
   have hqn:q<n:=by
    rcases AaM q n with h' | h'
    ·exact h'
    ·rw [AaL Bm] at hq;cases hq
   rw [← hv,AbJ hqn,List.getElem?_drop] at hq
   rw [hadd]
   simp [World.cell?,hb,hq])
  simp [execOp,ha.ev h,Instr.loadAt,Instr.sureAddr,hl]) k
theorem Db {o:Operand} {t n:Nat} {p:Addr} {c:Ctx} {G:Ah} {H:List Res} {vs:List Value} (hA:∀ w,(isAgg t).run x.P w=.ok true w) (hS:∀ w,(sizeOf t).run x.P w=.ok n w) (h:ev E o=some (.pointer (some p)))
  (hp:∀ j u,vs[j]?=some u→Fc G (p.add j)=some u) (hn:vs.length=n) (k:K (.agg vs.toArray)):Y x (St c G H) ⟨d,.load t o,ty,pos,aft,g⟩ E K :=
 Du (v:=.agg vs.toArray) (fun a ha w hw=>by
  have hl:=Hd (P:=x.P) (t:=t) (p:=p) (hA w) (hS w) hn (fun q u hq=>hw.cell (hp q u hq))
  simp [execOp,ha.ev h,Instr.loadAt,Instr.sureAddr,hl]) k
theorem Y_idx {o q:Operand} {t e:TypeId} {kd:IntKind} {n s:Nat} {j:Int} {v:Value} {xs:List Value} {G:Ah} (i:Nat) (hu:x.P.underlying t=some (.slice e)) (hs:∀ w,(sizeOf e).run x.P w=.ok s w)
  (hS:Sl G v s n xs) (h1:ev E o=some v) (h2:ev E q=some (.int kd j)) (hj:j=(i:Int)) (hlt:i<n)
  (k:∀ p,(∀ r u,xs[i*s+r]?=some u→Fc G (p.add r)=some u)→K (.pointer (some p))):Y x W ⟨d,.indexAddr t o q,ty,pos,aft,g⟩ E K:=by
 obtain ⟨A,c,rfl,_,_,_,hA⟩:=hS
 obtain ⟨a,rfl,hc⟩:=hA Bm
 subst hj
 refine Du (v:=.pointer (some (a.add (i*s)))) (fun f hf w _=>?_) (k _ fun r u hr=>by rw [Ru];exact hc _ u hr)
 simp [execOp,hf.ev h1,hf.ev h2,Instr.indexAt,asIntOf,run_underlying hu,hs w,hlt]
theorem wD {G:Ah} {A:Option Addr} {s n c l h:Nat} {xs:List Value} (hS:Sl G (.slice A n c) s n xs) (hl:l≤h) (hh:h≤n) :
  Sl G (.slice (if c=l then A else A.map (·.add (l*s))) (h-l) (c-l)) s (h-l) ((xs.drop (l*s)).take ((h-l)*s)):=by
 obtain ⟨A',c',he,h1,h2,h3,h4⟩:=hS
 injection he with e1 _ e3
 subst e1 e3
 have hmul:l*s+(h-l)*s=h*s:=by rw [← AcN];congr 1;omega
 have hle:h*s≤n*s:=AbL _ hh
 refine ⟨_,_,rfl,?_,by omega,by omega,fun hn=>?_⟩
 ·rw [Aag,Abo,h1];omega
 ·obtain ⟨a,rfl,hc⟩:=h4 Bm
  rw [if_neg Bm]
  refine ⟨a.add (l*s),rfl,fun j u hj=>?_⟩
  rw [Ru]
  have hjl:j<(h-l)*s:=by
   rcases AaM j ((h-l)*s) with h' | h'
   ·exact h'
   ·rw [AaL Z55] at hj;cases hj
  rw [AbJ hjl,List.getElem?_drop] at hj
  exact hc _ u hj
def bnd (E:Env) (o:Option Operand) (dflt n:Nat):Prop :=
 match o with
 | none=>n=dflt
 | some q=>∃ kd j,ev E q=some (.int kd j)∧j=(n:Int)
theorem pJ {o:Operand} {lo hi:Option Operand} {t e:TypeId} {n s:Nat} {v:Value} {xs:List Value} {G:Ah} (l h:Nat) (hu:x.P.underlying t=some (.slice e)) (hs:∀ w,(sizeOf e).run x.P w=.ok s w)
  (hS:Sl G v s n xs) (h1:ev E o=some v) (hlo:bnd E lo 0 l) (hhi:bnd E hi n h) (hl:l≤h) (hh:h≤n)
  (k:∀ v',Sl G v' s (h-l) ((xs.drop (l*s)).take ((h-l)*s))→K v'):Y x W ⟨d,.slice t o lo hi none,ty,pos,aft,g⟩ E K:=by
 have hS':=hS
 obtain ⟨A,c,rfl,_,hnc,_,_⟩:=hS'
 refine Du (v:=.slice (if c=l then A else A.map (·.add (l*s))) (h-l) (c-l)) (fun f hf w _=>?_) (k _ (wD hS hl hh))
 have b1:h≤c:=by omega
 cases lo with
 | none =>
  obtain rfl:l=0:=hlo
  cases hi with
  | none =>
   obtain rfl:h=n:=hhi
   simp [execOp,hf.ev h1,Instr.sliceAt,Instr.slice,Instr.sliceBounds,run_underlying hu,hs w]
  | some q =>
   obtain ⟨kd,j,hq,rfl⟩:=hhi
   simp [execOp,hf.ev h1,hf.ev hq,Instr.sliceAt,Instr.slice,Instr.sliceBounds,Instr.sliceBound,asIntOf,run_underlying hu,hs w,b1]
 | some q =>
  obtain ⟨kd,j,hq,rfl⟩:=hlo
  cases hi with
  | none =>
   obtain rfl:h=n:=hhi
   simp [execOp,hf.ev h1,hf.ev hq,Instr.sliceAt,Instr.slice,Instr.sliceBounds,Instr.sliceBound,asIntOf,run_underlying hu,hs w,hl]
  | some q' =>
   obtain ⟨kd',j',hq',rfl⟩:=hhi
   simp [execOp,hf.ev h1,hf.ev hq,hf.ev hq',Instr.sliceAt,Instr.slice,Instr.sliceBounds,Instr.sliceBound,asIntOf,run_underlying hu,hs w,b1,hl]
end
theorem Ko {x:Cx} {o:Oper} {Q:Exit→Env→World→Prop} {K:Value→World→Prop} {E:Env} {w:World} (hd:Jf o.op=true)
  (h:∀ a,Ag x.N E a→∃ v w',(execOp a.eval o).run x.P w=.ok (.value v) w'∧K v w'):S x o Q K E w:=by
 intro a ha next hn
 obtain ⟨v,w',hr,hK⟩:=h a ha
 refine ⟨fun _ _=>trivial,?_⟩
 rw [Oper.semAt_eq _ _ _ (fun c hc=>by rw [hc] at hd;cases hd),hr]
 exact hn _ _ hK
theorem Ye {x:Cx} {o:Oper} {Q:Exit→Env→World→Prop} {K:Value→World→Prop} {E:Env} {w:World} (hd:Jf o.op=true)
  (h:∀ a,Ag x.N E a→∃ w',(execOp a.eval o).run x.P w=.ok .skip w'∧K undef w'):S x o Q K E w:=by
 intro a ha next hn
 obtain ⟨w',hr,hK⟩:=h a ha
 refine ⟨fun _ _=>trivial,?_⟩
 rw [Oper.semAt_eq _ _ _ (fun c hc=>by rw [hc] at hd;cases hd),hr]
 exact hn _ _ hK
section
variable {x:Cx} {Q:Exit→Env→World→Prop} {E:Env} {K:Value→World→Prop} {w:World} {d:Option Tmp} {ty:TypeId} {pos:String} {aft:Array Edge} {g:Option (Nat×Bool)}
 {c:Ctx} {G:Ah} {H:List Res}
theorem Bs {e:TypeId} {z:Value} {cs:List Value} (hs:St c G H w) (hz:∀ w,(zeroValue e).run x.P w=.ok z w) (hc:z.cells.toList=cs)
  (k:∀ b w',St c G (.blk b e cs::H) w'→K (.pointer (some ⟨b,0,none⟩)) w'):S x ⟨d,.alloc e,ty,pos,aft,g⟩ Q K E w:=by
 subst hc
 refine Ko rfl fun a _=>⟨.pointer (some ⟨w.heap.size,0,none⟩),w.alloc (.cells z.cells e),?_,k _ _ (hs.alloc _ ?_ (fun k hk=>hk))⟩
 ·simp [execOp,Instr.alloc,hz w,newVar,newRow]
 ·show (w.alloc _).heap[w.heap.size]?=_
  rw [heap_alloc_new]
theorem Fj {e:TypeId} {o:Operand} {v:Value} {cs:List Value} (hs:St c G H w) (hv:ev E o=some v) (hc:v.cells.toList=cs)
  (k:∀ b w',St c G (.blk b e cs::H) w'→K (.pointer (some ⟨b,0,none⟩)) w'):S x ⟨d,.box e o,ty,pos,aft,g⟩ Q K E w:=by
 subst hc
 refine Ko rfl fun a ha=>⟨.pointer (some ⟨w.heap.size,0,none⟩),w.alloc (.cells v.cells e),?_,k _ _ (hs.alloc _ ?_ (fun k hk=>hk))⟩
 ·simp [execOp,Instr.box,ha.ev hv,newVar,newRow]
 ·show (w.alloc _).heap[w.heap.size]?=_
  rw [heap_alloc_new]
theorem pK {cs:List Value} {b e j:Nat} {v:Value} (h:w.heap[b]?=some (.cells cs.toArray e (0,0))):(w.setCell ⟨b,j,none⟩ v).heap[b]?=some (.cells (cs.set j v).toArray e (0,0)):=by
 simp [World.setCell,Abx,h]
theorem Gc {o p:Operand} {t b j e:Nat} {v:Value} {cs cs':List Value} (hs:St c G (.blk b e cs::H) w) (hS:∀ w,(sizeOf t).run x.P w=.ok 1 w) (h1:ev E o=some (.pointer (some ⟨b,j,none⟩))) (h2:ev E p=some v)
  (hone:v.oneCell'=true) (hj:j<cs.length) (hc:cs.set j v=cs') (k:∀ w',St c G (.blk b e cs'::H) w'→K undef w'):S x ⟨d,.store t o p,ty,pos,aft,g⟩ Q K E w:=by
 subst hc
 have hb:w.heap[b]?=some (.cells cs.toArray e (0,0)):=hs.hold (.blk b e cs) Di
 have hcell:w.cell? ⟨b,j,none⟩=some cs[j]:=by simp [World.cell?,hb,hj]
 have hfz:w.frozen? ⟨b,j,none⟩=false:=by simp [World.frozen?,hb]
 have hcells:v.cells=#[v]:=by cases v<;>simp [Value.oneCell'] at hone<;>rfl
 refine Ye rfl fun a ha=>⟨w.setCell ⟨b,j,none⟩ v,?_,k _ (hs.write rfl rfl rfl (by simp [World.setCell]) (fun k hk hne=>Below.heap_setCell w _ v k hne) (pK hb) (fun k hk=>.inl hk))⟩
 have hadd:(⟨b,j,none⟩:Addr).add 0=⟨b,j,none⟩:=rfl
 simp [execOp,ha.ev h1,ha.ev h2,Instr.storeAt,Instr.sureAddr,storeVar,hcells,hS w,storeCells,hadd,run_store,hone,hcell,hfz]
theorem Kp {P:Program} {b e j:Nat}:∀ {vs cs:List Value} {i:Nat} {w:World},w.heap[b]?=some (.cells cs.toArray e (0,0))→(∀ v∈vs,v.oneCell'=true)→j+i+vs.length≤cs.length →
  ∃ w',(storeCells ⟨b,j,none⟩ vs i).run P w=.ok () w'∧w'.os=w.os∧w'.tape=w.tape∧w'.output=w.output∧w'.heap.size=w.heap.size∧w'.drawn=w.drawn∧(∀ k,k≠b→w'.heap[k]?=w.heap[k]?) ∧
   w'.heap[b]?=some (.cells (cs.take (j+i)++vs++cs.drop (j+i+vs.length)).toArray e (0,0))
 | [],cs,i,w,hb,_,hl=>⟨w,by simp [storeCells],rfl,rfl,rfl,rfl,rfl,fun _ _=>rfl,by simp [hb]⟩
 | v::vs,cs,i,w,hb,h1,hl=>by
  have hadd:(⟨b,j,none⟩:Addr).add i=⟨b,j+i,none⟩:=by
   unfold Addr.add;split
   ·rename_i h0;simp [h0]
   ·rfl
  simp only [AaZ] at hl
  have hji:j+i<cs.length:=by omega
  have hcell:w.cell? ⟨b,j+i,none⟩=some cs[j+i]:=by simp [World.cell?,hb,hji]
  have hfz:w.frozen? ⟨b,j+i,none⟩=false:=by simp [World.frozen?,hb]
  have hone:=h1 v AaK
  obtain ⟨w',hr,e1,e2,e3,e4,ed,e5,e6⟩:=Kp (P:=P) (b:=b) (e:=e) (j:=j) (vs:=vs) (cs:=cs.set (j+i) v) (i:=i+1) (pK hb) (fun u hu=>h1 u (AaG _ hu)) tE
  refine ⟨w',?_,e1,e2,e3,by rw [e4];simp [World.setCell],ed,fun k hk=>by rw [e5 k hk];exact Below.heap_setCell w _ v k hk,?_⟩
  ·simp only [storeCells,Sem.run_bind,hadd]
   rw [run_store _ _ _ _ _ hone,hcell]
   simp [hfz,hr]
  ·rw [e6]
   congr 3
   rw [show j+(i+1)=(j+i)+1 by omega,List.take_succ_eq_append_getElem tE]
   simp only [Aby,List.take_set,AaI,List.singleton_append,AaZ]
   rw [List.set_eq_of_length_le (by rw [Aag];exact Nat.min_le_left _ _),List.drop_set_of_lt Bm]
   congr 3
   omega
theorem Lm {o p:Operand} {t b j e n:Nat} {vs cs cs':List Value} (hs:St c G (.blk b e cs::H) w) (hS:∀ w,(sizeOf t).run x.P w=.ok n w) (h1:ev E o=some (.pointer (some ⟨b,j,none⟩))) (h2:ev E p=some (.agg vs.toArray))
  (hn:vs.length=n) (hone:vs.all (·.oneCell')=true) (hj:j+n≤cs.length) (hc:cs.take j++vs++cs.drop (j+n)=cs') (k:∀ w',St c G (.blk b e cs'::H) w'→K undef w'):S x ⟨d,.store t o p,ty,pos,aft,g⟩ Q K E w:=by
 subst hc hn
 have hb:w.heap[b]?=some (.cells cs.toArray e (0,0)):=hs.hold (.blk b e cs) Di
 obtain ⟨w',hr,e1,e2,e3,e4,ed,e5,e6⟩:=Kp (P:=x.P) (b:=b) (e:=e) (j:=j) (i:=0) (vs:=vs) hb (by simpa using hone) (by simpa using hj)
 refine Ye rfl fun a ha=>⟨w',?_,k _ (hs.write e1 e2 e3 Bm (fun k hk hne=>e5 k hne) (by simpa [Res.holds] using e6) (fun k hk=>.inl hk) (Nat.le_of_eq ed.symm))⟩
 simp [execOp,ha.ev h1,ha.ev h2,Instr.storeAt,Instr.sureAddr,storeVar,Value.cells,hS w,hr]
theorem Yi {e k n:Nat} {cs:List Value} (hl:cs.length=n*k) (hm:n≤maxLen):Res.holds (w.alloc (.cells cs.toArray e)) (.row e k (.slice (some ⟨w.heap.size,0,none⟩) n n) n cs):=by
 refine ⟨hl,.inr ⟨w.heap.size,n,cs.toArray,rfl,Aas _,heap_alloc_new w _,AaR _,hm,by simpa using hl,?_⟩⟩
 simp [← hl]
def evs (E:Env):List (Nat×Operand)→Option (List (Nat×Value))
 | []=>some []
 | (i,o)::r=>match ev E o,evs E r with
  | some v,some vs=>some ((i,v)::vs)
  | _,_=>none
theorem Ol {N:Nat} {a:Act} (ha:Ag N E a):∀ {ps:List (Nat×Operand)} {vs:List (Nat×Value)},evs E ps=some vs→ps.map (fun p=>(p.1,a.eval p.2))=vs
 | [],vs,h=>by simp [evs] at h;simp [h]
 | (i,o)::r,vs,h=>by
  simp only [evs] at h
  cases h1:ev E o with
  | none=>rw [h1] at h;cases h
  | some v =>
   cases h2:evs E r with
   | none=>rw [h1,h2] at h;cases h
   | some us =>
    rw [h1,h2] at h
    injection h with h
    subst h
    simp [ha.ev h1,Ol ha h2]
def Qo:List Value→Nat→List Value→List Value
 | cs,_,[]=>cs
 | cs,off,v::vs=>Qo (cs.set off v) (off+1) vs
def Gd (place:Nat→Option (Nat×Nat)):List Value→List (Nat×Value)→Option (List Value)
 | cs,[]=>some cs
 | cs,(i,v)::r =>
  match place i with
  | none=>none
  | some (off,size)=>bif Nat.beq v.cells.toList.length size && Nat.ble (off+v.cells.toList.length) cs.length then Gd place (Qo cs off v.cells.toList) r else none
theorem dD (off:Nat):∀ (vs:List Value) (i:Nat) (cs:Array Value),(vs.zipIdx i).foldl (fun cs (c,j)=>cs.setIfInBounds (off+j) c) cs=(Qo cs.toList (off+i) vs).toArray
 | [],_,cs=>by simp [Qo]
 | v::vs,i,cs=>by
  simp only [List.zipIdx_cons,Aao,Qo]
  rw [dD off vs (i+1)]
  simp [Nat.add_assoc]
theorem Mj {place:Nat→Option (Nat×Nat)}:∀ {ps:List (Nat×Value)} {cs cs':List Value},Gd place cs ps=some cs'→Instr.fill place cs.toArray ps=some cs'.toArray
 | [],cs,cs',h=>by simp [Gd] at h;simp [Instr.fill,h]
 | (i,v)::r,cs,cs',h=>by
  simp only [Gd] at h
  simp only [Instr.fill]
  cases hp:place i with
  | none=>rw [hp] at h;cases h
  | some os =>
   obtain ⟨off,size⟩:=os
   rw [hp] at h
   simp only at h ⊢
   cases hb:(Nat.beq v.cells.toList.length size && Nat.ble (off+v.cells.toList.length) cs.length) with
   | false=>rw [hb] at h;cases h
   | true =>
    rw [hb] at h
    simp only [Aah,Nat.beq_eq,Nat.ble_eq] at hb
    obtain ⟨h1,h2⟩:=hb
    simp only [Abe] at h1 h2
    have hc:(v.cells.size != size || decide (off+v.cells.size>cs.toArray.size))=false:=by simp [h1];omega
    have hf:(Array.foldl (fun cs (x:Value×Nat)=>cs.setIfInBounds (off+x.2) x.1) cs.toArray v.cells.zipIdx)=(Qo cs off v.cells.toList).toArray:=by
     rw [← Array.foldl_toList,Array.toList_zipIdx]
     exact dD off _ 0 _
    have:=Mj (place:=place) (ps:=r) iB
    simp_all
def places (P:Program) (t:TypeId):Option (List (Nat×Nat)) :=
 match P.underlying t with
 | some (.struct fs)=>fs.toList.mapM fun f=>(P.info? f.type).map fun i=>(f.offset,i.size)
 | _=>none
theorem Vz {P:Program} {w:World}:∀ {fs:List Field} {l:List (Nat×Nat)},fs.mapM (fun f=>(P.info? f.type).map fun i=>(f.offset,i.size))=some l →
  (fs.mapM fun f=>(do pure (f.offset,← sizeOf f.type):Sem (Nat×Nat))).run P w=.ok l w
 | [],l,h=>by simp at h;subst h;simp
 | f::fs,l,h=>by
  simp only [List.mapM_cons] at h
  cases hi:P.info? f.type with
  | none=>rw [hi] at h;simp at h
  | some i =>
   rw [hi] at h
   cases hr:fs.mapM (fun f=>(P.info? f.type).map fun i=>(f.offset,i.size)) with
   | none=>rw [hr] at h;simp at h
   | some l' =>
    rw [hr] at h
    simp at h
    subst h
    have hsz:(sizeOf f.type).run P w=.ok i.size w:=by simp [sizeOf,typeInfo,hi]
    simp only [List.mapM_cons,Sem.run_bind,Result.andThen_ok,Sem.run_pure,hsz,Vz hr]
theorem Ce {W:World→Prop} {K:Value→Prop} {t:TypeId} {ps:List (Nat×Operand)} {z:Value} {zs cs:List Value} {vs:List (Nat×Value)} {pl:List (Nat×Nat)} (hz:∀ w,(zeroValue t).run x.P w=.ok z w) (hzs:z.cells.toList=zs)
  (hp:places x.P t=some pl) (hv:evs E ps=some vs) (hc:Gd (pl[·]?) zs vs=some cs) (k:K (.agg cs.toArray)):Y x W ⟨d,.build t ps.toArray,ty,pos,aft,g⟩ E K:=by
 subst hzs
 refine Du (v:=.agg cs.toArray) (fun a ha w _=>?_) k
 have hv':=Ol ha hv
 unfold places at hp
 cases hu:x.P.underlying t with
 | none=>rw [hu] at hp;cases hp
 | some td =>
  rw [hu] at hp
  cases td with
  | struct fs =>
   simp only at hp
   have hm:(fs.mapM fun f=>(do pure (f.offset,← sizeOf f.type):Sem (Nat×Nat))).run x.P w=.ok pl.toArray w:=by
    rw [Array.mapM_eq_mapM_toList,Sem.run_map,Vz hp];rfl
   have hf:=Mj hc
   simp only [Array.toArray_toList] at hf
   simp only [execOp,Instr.build,Sem.run_bind,hz w,Result.andThen_ok,run_underlying hu w,hm]
   simp only [List.map_toArray,hv']
   have:(fun i:Nat=>pl.toArray[i]?)=(fun i:Nat=>pl[i]?):=by funext i;simp
   rw [this,hf]
   simp
  | _=>simp at hp
theorem Pk (z:Array Value) (k:Nat) (hk:z.size=k):∀ n,(List.range (n*k)).map (fun j=>z[j % k]!)=(List.replicate n z.toList).flatten
 | 0=>by simp
 | n+1=>by
  rw [AcN,AcE,List.range_add,AaU,Pk z k hk n,List.replicate_succ',List.flatten_append]
  congr 1
  simp only [AbW,List.flatten_nil,AaX,AbV]
  apply Abb
  ·simp [hk]
  ·intro j h1 h2
   have hj:j<k:=by simpa using h1
   simp [AaT hj,hk,hj]
theorem Bw {t e k n:Nat} {ps:List (Nat×Operand)} {z:Value} {zs cs:List Value} {vs:List (Nat×Value)} (hs:St c G H w) (hu:x.P.underlying t=some (.slice e)) (hS:∀ w,(sizeOf e).run x.P w=.ok k w)
  (hz:∀ w,(zeroValue e).run x.P w=.ok z w) (hk:z.cells.size=k) (hzs:(List.replicate n z.cells.toList).flatten=zs) (hn:n*k≤16777216) (hn':n≤16777216) (hv:evs E ps=some vs) (hc:Gd (fun i=>some (i*k,k)) zs vs=some cs) (hl:cs.length=n*k)
  (kk:∀ v w',St c G (.row e k v n cs::H) w'→(∃ b,v=.slice (some ⟨b,0,none⟩) n n)→K v w'):S x ⟨d,.buildSlice t n ps.toArray,ty,pos,aft,g⟩ Q K E w:=by
 refine Ko rfl fun a ha=>⟨.slice (some ⟨w.heap.size,0,none⟩) n n,w.alloc (.cells cs.toArray e),?_,kk _ _ (hs.alloc _ (Yi hl (by unfold maxLen;omega)) (fun j hj=>by simpa [Res.foot,Value.ownBlock] using hj.symm)) ⟨_,rfl⟩⟩
 have hv':=Ol ha hv
 have hf:=Mj hc
 have hr:((Array.range (n*k)).map fun j=>z.cells[j % k]!)=zs.toArray:=by
  rw [← hzs,← Pk z.cells k hk n]
  apply Array.ext'
  simp
 simp only [execOp,Instr.buildSlice,Sem.run_bind,run_underlying hu w,Result.andThen_ok,hS w]
 rw [if_neg Bm]
 simp only [List.map_toArray,hv']
 by_cases h0:n*k=0
 ·have hz0:zs=[]:=by
   have:zs.toArray=#[]:=by rw [← hr,h0];simp
   simpa using this
  subst hz0
  simp only [h0,if_true,Sem.run_bind,Sem.run_pure,Result.andThen_ok]
  have:(Array.map (fun y=>(#[]:Array Value)[y % (#[]:Array Value).size]!) (Array.range 0))=#[]:=by simp
  rw [this,hf]
  simp [newRow]
 ·simp only [h0,if_false,Sem.run_bind,hz w,Result.andThen_ok,Sem.run_pure]
  rw [hk,hr,hf]
  simp [newRow]
def TI (P:Program) (e:TypeId) (z:Value) (k bytes:Nat):Prop:=∃ i,P.info? e=some i∧i.zero=some z∧i.size=k∧i.bytes=bytes
theorem TI.of {P:Program} {e:TypeId} {z:Value} {k bytes:Nat} (h:(P.info? e).map (fun i=>(i.zero,i.size,i.bytes))=some (some z,k,bytes)):TI P e z k bytes:=by
 cases hi:P.info? e with
 | none=>rw [hi] at h;cases h
 | some i =>
  rw [hi] at h
  simp at h
  exact ⟨i,hi,h.1,h.2.1,h.2.2⟩
theorem Ym {P:Program} {t ty e:TypeId} {z:Value} {k bytes:Nat} (ht:P.underlying t=some (.slice e)) (hi:TI P e z k bytes) (hzk:z.cells.size=k) (hk:0<k)
  {v v':Value} {n m c0:Nat} {xs ys:List Value} {w':World} {a:Addr} (hown:w.ownsRow 0 e k v n xs) (hl:ys.length=m*k) (hy:∀ j u,ys[j]?=some u→w.cell? (a.add j)=some u) (h1:∀ y∈ys,y.oneCell'=true) (hb:(n+m)*bytes≤140737488355328) (hm:n+m≤140737488355328)
  (hr:(Builtin.append_ #[t,t] ty #[v,.slice (some a) m c0]).run P w=.ok v' w'):w.drawn≤w'.drawn:=by
 obtain ⟨i,hi,hz,rfl,rfl⟩:=hi
 rcases hown.2 with ⟨rfl,rfl⟩ | ⟨g,cap,cur,rfl,_,hg,hnc,hcm,hcs,_⟩
 ·rcases AbP m with h0 | h0
  ·subst h0
   have hn:ys=[]:=AbR (by simpa using hl)
   subst hn
   simp [Builtin.append_,run_underlying ht,sizeOf,typeInfo,hi,Builtin.lenOf,Builtin.firstCells,loadCells,loadCellsFrom] at hr
   rw [← hr.2];exact AaR _
  ·rw [run_append_nil (P:=P) w t ty e i z ht hi hz a m c0 ys hl hy Bm Bm (by have h2:=hb;simp only [Abr] at h2;omega)] at hr
   injection hr with _ hr
   rw [← hr];exact Nat.le_succ _
 ·by_cases hroom:n+m≤cap
  ·rw [run_append_room (P:=P) w t ty e i ht hi g n cap cur hg a m c0 ys hl hy h1 hroom (by rw [hl,hcs,← AcN];exact AbL _ hroom)] at hr
   injection hr with _ hr
   rw [← hr];exact AaR _
  ·have holds:∀ j u,xs[j]?=some u→w.cell? ((⟨g,0,none⟩:Addr).add j)=some u:=hown.cells (g:=g) rfl
   rw [run_append_grow (P:=P) w t ty e i z ht hi hz ⟨g,0,none⟩ n cap xs hown.1 holds a m c0 ys hl hy Bm Bm (growslice_fits Bm hb)] at hr
   injection hr with _ hr
   rw [← hr];exact Nat.le_succ _
theorem Yo {P:Program} {t ty e:TypeId} {z:Value} {k bytes:Nat} (ht:P.underlying t=some (.slice e)) (hi:TI P e z k bytes) (hzk:z.cells.size=k) (hk:0<k)
  {v u:Value} {n m:Nat} {xs ys:List Value} (hown:w.ownsRow 0 e k v n xs) (hs:St c G H w) (hu:Sl G u k m ys) (h1:∀ y∈ys,y.oneCell'=true) (hb:(n+m)*bytes≤140737488355328) (hm:n+m≤140737488355328) :
  ∃ v' w',(Builtin.append_ #[t,t] ty #[v,u]).run P w=.ok v' w'∧w'.ownsRow 0 e k v' (n+m) (xs++ys)∧w.grownBy w' v.ownBlock∧(v'.ownBlock=v.ownBlock∨v'.ownBlock=some w.heap.size)∧w.drawn≤w'.drawn:=by
 have hI:=hi
 obtain ⟨i,hi,hz,hik,hib⟩:=hi
 obtain ⟨A,cap,rfl,hl,hmc,hcm,hA⟩:=hu
 rcases AbP m with h0 | h0
 ·subst h0
  have hy:ys=[]:=AbR (by simpa using hl)
  subst hy
  cases A with
  | none =>
   refine ⟨v,w,?_,by simpa using hown,⟨rfl,rfl,rfl,AaR _,fun _ _ _=>rfl⟩,.inl rfl,AaR _⟩
   rcases hown.2 with ⟨rfl,rfl⟩ | ⟨g,cp,cur,rfl,_,_,hnc,_⟩
   ·simp [Builtin.append_,run_underlying ht,sizeOf,typeInfo,hi,Builtin.lenOf,Builtin.firstCells]
   ·simp [Builtin.append_,run_underlying ht,sizeOf,typeInfo,hi,Builtin.lenOf,Builtin.firstCells,hnc,storeCells]
  | some a =>
   obtain ⟨v',w',h2,h3,h4,_,h5⟩:=run_append_own_at (P:=P) w 0 t ty e i z k bytes ht hi hz hik hib hzk hk v n xs hown a 0 cap [] Di Di Di (by unfold maxLen;omega) hb (Aas _)
   exact ⟨v',w',h2,h3,h4,h5,Ym (ys:=[]) ht hI hzk hk hown Di Di Di hb hm h2⟩
 ·obtain ⟨a,rfl,hc⟩:=hA h0
  obtain ⟨v',w',h2,h3,h4,_,h5⟩:=run_append_own_at (P:=P) w 0 t ty e i z k bytes ht hi hz hik hib hzk hk v n xs hown a m cap ys hl (fun j u hj=>hs.cell (hc j u hj)) h1 (by unfold maxLen;omega) hb (Aas _)
  exact ⟨v',w',h2,h3,h4,h5,Ym ht hI hzk hk hown hl (fun j u hj=>hs.cell (hc j u hj)) h1 hb hm h2⟩
theorem Au {o p:Operand} {t e:TypeId} {z v u:Value} {k bytes n m:Nat} {xs ys:List Value} (hs:St c G (.row e k v n xs::H) w) (ht:x.P.underlying t=some (.slice e)) (hi:TI x.P e z k bytes) (hzk:z.cells.size=k) (hk:0<k)
  (ho:ev E o=some v) (hp:ev E p=some u) (hu:Sl G u k m ys) (h1:∀ y∈ys,y.oneCell'=true) (hb:(n+m)*bytes≤140737488355328) (hm:n+m≤140737488355328)
  (kk:∀ v' w',St c G (.row e k v' (n+m) (xs++ys)::H) w'→K v' w'):S x ⟨d,.call { callee:=.builtin .append,args:=#[o,p],argTypes:=#[t,t] },ty,pos,aft,g⟩ Q K E w:=by
 have hown:w.ownsRow 0 e k v n xs:=hs.hold (.row e k v n xs) Di
 obtain ⟨v',w',hr,h2,h3,h4,hdr⟩:=Yo (ty:=ty) ht hi hzk hk hown hs hu h1 hb hm
 refine Ko rfl fun a ha=>⟨v',w',?_,kk _ _ (hs.write h3.os h3.tape h3.output h3.size (fun j hj hne=>h3.block j hj (fun he=>hne he.symm)) h2 (fun j hj=>?_))⟩
 ·simp [execOp,resolve,invoke,builtin,ha.ev ho,ha.ev hp,hr]
 ·rcases h4 with h4 | h4
  ·left;simpa [Res.foot,h4] using hj
  ·right
   have:w.heap.size=j:=by simpa [Res.foot,h4] using hj
   omega
theorem Et {f:FuncId} {ao:List Operand} {ats:Array TypeId} {args:List Value} {H1:List Res} {R:Value→Ah→List Res→Prop} {fn:Func} (hs:St c G (H1++H) w) (ha:ao.map (ev E)=args.map some) (hfn:x.P.funcs[f]?=some fn) (hb:fn.body.isSome=true)
  (hnm : (fn.name == "runtime.NumGoroutine") = false) (h : Ba x.P f args G H1 R)
  (kk:∀ v G' H' w',R v G' H'→G.le G'→St c G' (H'++H) w'→K v w'):S x ⟨d,.call { callee:=.value (.func f),args:=ao.toArray,argTypes:=ats },ty,pos,aft,g⟩ Q K E w:=by
 intro a hA next hn
 have hargs:ao.map a.eval=args:=by
  have:∀ (ao:List Operand) (args:List Value),ao.map (ev E)=args.map some→ao.map a.eval=args:=by
   intro ao
   induction ao with
   | nil=>intro args h;cases args with
    | nil=>rfl
    | cons _ _=>cases h
   | cons o ao ih =>
    intro args h
    cases args with
    | nil=>cases h
    | cons v args =>
     simp only [Aar,List.cons.injEq] at h
     simp [hA.ev h.1,ih args h.2]
  exact this ao args ha
 refine ⟨fun _ _=>trivial,?_⟩
 rw [Oper.semAt_eq _ _ _ (fun c hc=>by cases hc)]
 have hr:(execOp a.eval ⟨d,.call { callee:=.value (.func f),args:=ao.toArray,argTypes:=ats },ty,pos,aft,g⟩).run x.P w=.ok (.enter f args.toArray) w:=by
  have hbn:¬ fn.body=none:=by intro h0;rw [h0] at hb;cases hb
  have hnm' : ¬ fn.name = "runtime.NumGoroutine" := by simpa using hnm
  simp [execOp,resolve,Deferred.ofValue,Act.eval,invoke,callFunc,hfn,hnm',hbn,hargs]
 rw [hr]
 refine ⟨fun h=>Wn,?_⟩
 have hcall:=h.call hs
 have h2:=(callsIn_wide (n:=0)).2 hcall
 have h3:=CallsIn.mono (F:=RF x.r) (n:=0-1) (R:=_) (R':=fun
   | .returned v,w''=>next (a.put d v) w''
   | .panicked chain,w''=>Uc x.N Q (.panic chain) a w''
   | .outgrown,_=>LetsOut (Uc x.N Q)) h2 (fun e w' he=>by
  obtain ⟨v,G',H',rfl,hle,hs',hR⟩:=he
  exact hn _ _ (kk v G' H' w' hR hle hs'))
 exact h3
theorem St.fixRow {e k n:Nat} {v:Value} {xs:List Value} (hs:St c G (.row e k v n xs::H) w) (hM:∀ b,v.ownBlock=some b→¬ c.M b):∃ G',G.le G'∧Sl G' v k n xs∧St c G' H w:=by
 obtain ⟨G',h1,h2,h3⟩:=hs.freeze hM
 exact ⟨G',h1,Sl.of_row (hs.hold (.row e k v n xs) Di) (fun b hb=>h2 b hb),h3⟩
theorem St.rowOne {e k n:Nat} {v:Value} {xs:List Value} (i:Nat) (hs:St c G H w) (hi:H[i]?=some (.row e k v n xs)):v.oneCell'=true:=by
 have h:=hs.hold _ (AaF hi)
 rcases h.2 with ⟨rfl,_⟩ | ⟨g,cp,cur,rfl,_⟩<;>rfl
theorem St.rowTake {e k n m b cap:Nat} {xs:List Value} (hs:St c G (.row e k (.slice (some ⟨b,0,none⟩) n cap) n xs::H) w) (hm:m≤n):St c G (.row e k (.slice (some ⟨b,0,none⟩) m cap) m (xs.take (m*k))::H) w:=by
 have hown:w.ownsRow 0 e k (.slice (some ⟨b,0,none⟩) n cap) n xs:=hs.hold (.row e k _ n xs) Di
 have hmk:m*k≤n*k:=AbL _ hm
 refine hs.write rfl rfl rfl (AaR _) (fun _ _ _=>rfl) ?_ (fun j hj=>.inl hj)
 refine ⟨by rw [Aag,hown.1];omega,?_⟩
 rcases hown.2 with ⟨h,_⟩ | ⟨g,cp,cur,h,h0,hh,hnc,hcm,hsz,htk⟩
 ·cases h
 ·injection h with h1 h2 h3
  injection h1 with h1
  injection h1 with h1
  subst h1 h3
  refine .inr ⟨b,cap,cur,rfl,h0,hh,by omega,hcm,hsz,?_⟩
  rw [← htk,List.take_take,Nat.min_eq_left hmk]
theorem Y_cap {W:World→Prop} {K:Value→Prop} {o:Operand} {t e:TypeId} {A:Option Addr} {n cp:Nat} (hu:x.P.underlying t=some (.slice e)) (h:ev E o=some (.slice A n cp)) (k:K (.int .i64 (cp:Int))) :
  Y x W ⟨d,.call { callee:=.builtin .cap,args:=#[o],argTypes:=#[t] },ty,pos,aft,g⟩ E K :=
 Du (v:=.int .i64 (cp:Int)) (fun a ha w _=>by
  simp [execOp,resolve,invoke,builtin,Builtin.cap_,ha.ev h,run_underlying hu,goInt]) k
theorem Yr {W:World→Prop} {K:Value→Prop} {o q:Operand} {t e:TypeId} {A:Option Addr} {n cp s:Nat} {kd:IntKind} {j:Int} (h:Nat) (hu:x.P.underlying t=some (.slice e)) (hs:∀ w,(sizeOf e).run x.P w=.ok s w) (h1:ev E o=some (.slice A n cp)) (h2:ev E q=some (.int kd j)) (hj:j=(h:Int)) (hh:h≤cp)
  (k:K (.slice A h cp)):Y x W ⟨d,.slice t o none (some q) none,ty,pos,aft,g⟩ E K:=by
 subst hj
 have hA:(if cp=0 then A else A.map fun a=>a.add (0*s))=A:=by
  split
  ·rfl
  ·cases A with
   | none=>rfl
   | some a=>simp [Addr.add]
 refine Du (v:=.slice A h cp) (fun f hf w _=>?_) k
 simp only [Nat.zero_mul] at hA
 simp [execOp,hf.ev h1,hf.ev h2,Instr.sliceAt,Instr.slice,Instr.sliceBounds,Instr.sliceBound,asIntOf,run_underlying hu,hs w,hh,hA]
end
def Cw {α β:Type} (R:α→β→Prop):List α→List β→Prop
 | [],[]=>True
 | a::l,b::m=>R a b∧Cw R l m
 | _,_=>False
theorem Cw.length {α β:Type} {R:α→β→Prop}:∀ {l:List α} {m:List β},Cw R l m→l.length=m.length
 | [],[],_=>rfl
 | _::_,_::_,h=>by simp [Cw.length h.2]
theorem Cw.mono {α β:Type} {R R':α→β→Prop} (hr:∀ a b,R a b→R' a b):∀ {l:List α} {m:List β},Cw R l m→Cw R' l m
 | [],[],_=>trivial
 | _::_,_::_,h=>⟨hr _ _ h.1,Cw.mono hr h.2⟩
theorem Cw.get {α β:Type} {R:α→β→Prop}:∀ {l:List α} {m:List β} (i:Nat),Cw R l m→(h:i<m.length)→∃ a,l[i]?=some a∧R a m[i]
 | [],[],i,_,h=>by simp at h
 | a::_,b::_,0,h,_=>⟨a,rfl,h.1⟩
 | _::l,_::m,i+1,h,hi=>by
  obtain ⟨a,h1,h2⟩:=Cw.get i h.2 (by simpa using hi)
  exact ⟨a,by simpa using h1,by simpa using h2⟩
theorem Cw.append {α β:Type} {R:α→β→Prop}:∀ {l l':List α} {m m':List β},Cw R l m→Cw R l' m'→Cw R (l++l') (m++m')
 | [],_,[],_,_,h'=>h'
 | _::_,_,_::_,_,h,h'=>⟨h.1,Cw.append h.2 h'⟩
theorem Cw.drop {α β:Type} {R:α→β→Prop}:∀ {l:List α} {m:List β} (i:Nat),Cw R l m→Cw R (l.drop i) (m.drop i)
 | l,m,0,h=>by simpa using h
 | [],[],_+1,_=>trivial
 | _::_,_::_,i+1,h=>by simpa using Cw.drop i h.2
theorem Cw.take {α β:Type} {R:α→β→Prop}:∀ {l:List α} {m:List β} (i:Nat),Cw R l m→Cw R (l.take i) (m.take i)
 | _,_,0,_=>by simp [Cw]
 | [],[],_+1,_=>trivial
 | _::_,_::_,i+1,h=>⟨h.1,Cw.take i h.2⟩
def Om (P:Program) (E:Env) (w:World):ResultVar→Value→Prop
 | .tmp t,v=>Em E.l t=some v
 | .cell a ty,v=>∃ p,Em E.l a=some (.pointer (some p))∧(loadVar ty p).run P w=.ok v w
def tup:List Value→Value
 | [v]=>v
 | vs=>.tuple vs.toArray
def wE (tmps:Array Value):ResultVar→Sem Value
 | .tmp t=>pure (tmps.getD t undef)
 | .cell b t=>do loadVar t (← asAddr (tmps.getD b undef))
theorem mQ (fn:Func) (tmps:Array Value):results fn tmps=(do let vs ← fn.results.mapM (wE tmps);pure (if h:vs.size=1 then vs[0] else .tuple vs)):=by
 unfold results
 congr 2
theorem wF {P:Program} {N:Nat} {E:Env} {w:World} {a:Act} (ha:Ag N E a) {r:ResultVar} {v:Value} (h:Om P E w r v):(wE a.tmps r).run P w=.ok v w:=by
 cases r with
 | tmp t =>
  have:=ha.look t v h
  simp [wE,this]
 | cell b t =>
  obtain ⟨p,hp,hl⟩:=h
  have:=ha.look b _ hp
  simp [wE,this,asAddr,hl]
theorem Rw {P:Program} {N:Nat} {E:Env} {w:World} {a:Act} (ha:Ag N E a):∀ {rs:List ResultVar} {vs:List Value},Cw (Om P E w) rs vs →
  (rs.mapM (wE a.tmps)).run P w=.ok vs w
 | [],[],_=>by simp
 | r::rs,v::vs,h=>by
  have ih:=Rw ha h.2
  have h1:=wF ha h.1
  simp only [List.mapM_cons,Sem.run_bind,h1,Result.andThen_ok,ih,Sem.run_pure]
theorem Ln {P:Program} {N:Nat} {E:Env} {w:World} {fn:Func} {rs:List ResultVar} {vs:List Value} (hr:fn.results=rs.toArray) (h:Cw (Om P E w) rs vs) :
  ∀ a,Ag N E a→(results fn a.tmps).run P w=.ok (tup vs) w:=by
 intro a ha
 have hm:=Rw ha h
 rw [mQ,hr]
 simp only [List.mapM_toArray,Sem.run_bind,Sem.run_map,hm,Result.andThen_ok,Sem.run_pure]
 match vs with
 | []=>rfl
 | [v]=>rfl
 | _::_::_=>simp [tup]
theorem By {P:Program} {N:Nat} {E:Env} {w:World} {fn:Func} {rs:List ResultVar} {vs:List Value} {R:Value→World→Prop} (hr:fn.results=rs.toArray) (hd:E.d=[]) (h:Cw (Om P E w) rs vs) (hR:R (tup vs) w) :
  Rt P N fn R .ret E w:=⟨hd,tup vs,Ln hr h,hR⟩
theorem Pl {P:Program} {N:Nat} {E:Env} {w:World} {fn:Func} {rs:List ResultVar} {vs:List Value} {R:Value→World→Prop} (hr:fn.results=rs.toArray) (hd:E.d=[]) (h:Cw (Om P E w) rs vs) (hR:R (tup vs) w) :
  Rt P N fn R .normal E w:=⟨hd,tup vs,Ln hr h,hR⟩
theorem Bq {P:Program} {E:Env} {w:World} {c:Ctx} {G:Ah} {H:List Res} {a b e n:Nat} {ty:TypeId} {cs:List Value} (i:Nat) (hs:St c G H w) (hA:∀ w,(isAgg ty).run P w=.ok true w) (hS:∀ w,(sizeOf ty).run P w=.ok n w)
  (h:Em E.l a=some (.pointer (some ⟨b,0,none⟩))) (hi:H[i]?=some (.blk b e cs)) (hn:cs.length=n):Om P E w (.cell a ty) (.agg cs.toArray):=by
 refine ⟨_,h,Hd (hA w) (hS w) hn fun q u hq=>?_⟩
 have hb:w.heap[b]?=some (.cells cs.toArray e (0,0)):=hs.hold _ (AaF hi)
 have hadd:((⟨b,0,none⟩:Addr).add q)=⟨b,q,none⟩:=by
  unfold Addr.add;split
  ·rename_i h0;simp [h0]
  ·simp
 rw [hadd]
 simp [World.cell?,hb,hq]
abbrev Dy (b:UInt8):Value:=.int .u8 (b.toNat:Int)
def Bd (G:Ah) (v:Value) (bs:List UInt8):Prop:=Sl G v 1 bs.length (bs.map Dy)
theorem Bd.mono {G G':Ah} (h:G.le G') {v:Value} {bs:List UInt8} (hb:Bd G v bs):Bd G' v bs:=Sl.mono h hb
def Wo (G:Ah) (v:Value) (l:List Int):Prop:=Sl G v 1 l.length (l.map (.int .i64))
theorem Wo.mono {G G':Ah} (h:G.le G') {v:Value} {l:List Int} (hb:Wo G v l):Wo G' v l:=Sl.mono h hb
def Es (G:Ah) (v:Value) (l:List (List UInt8)):Prop:=∃ vs,Sl G v 1 l.length vs∧Cw (Bd G) vs l
theorem Es.mono {G G':Ah} (h:G.le G') {v:Value} {l:List (List UInt8)} (hb:Es G v l):Es G' v l:=by
 obtain ⟨vs,h1,h2⟩:=hb
 exact ⟨vs,h1.mono h,h2.mono fun _ _=>Bd.mono h⟩
theorem Pm {l:List UInt8}:∀ y∈l.map Dy,y.oneCell'=true:=by
 intro y hy
 obtain ⟨b,_,rfl⟩:=Aaf.1 hy
 rfl
section
variable {x:Cx} {W:World→Prop} {E:Env} {K:Value→Prop} {d:Option Tmp} {ty:TypeId} {pos:String} {aft:Array Edge} {g:Option (Nat×Bool)} {o q:Operand} {t e:TypeId} {kd:IntKind} {j:Int} {v:Value} {G:Ah}
theorem Ee {n:Nat} {xs:List Value} {u:Value} (i:Nat) (hu:x.P.underlying t=some (.slice e)) (hs:∀ w,(sizeOf e).run x.P w=.ok 1 w) (hS:Sl G v 1 n xs) (h1:ev E o=some v) (h2:ev E q=some (.int kd j)) (hj:j=(i:Int)) (hx:xs[i]?=some u)
  (k:∀ p,Fc G p=some u→K (.pointer (some p))):Y x W ⟨d,.indexAddr t o q,ty,pos,aft,g⟩ E K:=by
 have hlt:i<n:=by
  have h3:=(AbN.1 hx).1
  rw [hS.len] at h3;omega
 refine Y_idx i hu hs hS h1 h2 hj hlt fun p hp=>k p ?_
 have:=hp 0 u (by simpa using hx)
 exact this
theorem Ek {bs:List UInt8} (hb:Bd G v bs) (i:Nat) (hu:x.P.underlying t=some (.slice e)) (hs:∀ w,(sizeOf e).run x.P w=.ok 1 w) (h1:ev E o=some v) (h2:ev E q=some (.int kd j)) (hj:j=(i:Int)) (hi:i<bs.length)
  (k:∀ p,Fc G p=some (Dy bs[i])→K (.pointer (some p))):Y x W ⟨d,.indexAddr t o q,ty,pos,aft,g⟩ E K :=
 Ee i hu hs hb h1 h2 hj (by simp [hi]) k
theorem Y_idxI {l:List Int} (hb:Wo G v l) (i:Nat) (hu:x.P.underlying t=some (.slice e)) (hs:∀ w,(sizeOf e).run x.P w=.ok 1 w) (h1:ev E o=some v) (h2:ev E q=some (.int kd j)) (hj:j=(i:Int)) (hi:i<l.length)
  (k:∀ p,Fc G p=some (.int .i64 l[i])→K (.pointer (some p))):Y x W ⟨d,.indexAddr t o q,ty,pos,aft,g⟩ E K :=
 Ee i hu hs hb h1 h2 hj (by simp [hi]) k
theorem Qp {l:List (List UInt8)} (hb:Es G v l) (i:Nat) (hu:x.P.underlying t=some (.slice e)) (hs:∀ w,(sizeOf e).run x.P w=.ok 1 w) (h1:ev E o=some v) (h2:ev E q=some (.int kd j)) (hj:j=(i:Int)) (hi:i<l.length)
  (k:∀ p u,Fc G p=some u→Bd G u l[i]→K (.pointer (some p))):Y x W ⟨d,.indexAddr t o q,ty,pos,aft,g⟩ E K:=by
 obtain ⟨vs,h3,h4⟩:=hb
 obtain ⟨u,hu',hB⟩:=h4.get i hi
 exact Ee i hu hs h3 h1 h2 hj hu' fun p hp=>k p u hp hB
theorem Ys {lo hi:Option Operand} {bs:List UInt8} (hb:Bd G v bs) (l h:Nat) (hu:x.P.underlying t=some (.slice e)) (hs:∀ w,(sizeOf e).run x.P w=.ok 1 w) (h1:ev E o=some v) (hlo:bnd E lo 0 l) (hhi:bnd E hi bs.length h) (hl:l≤h) (hh:h≤bs.length)
  (k:∀ v',Bd G v' ((bs.drop l).take (h-l))→K v'):Y x W ⟨d,.slice t o lo hi none,ty,pos,aft,g⟩ E K :=
 pJ l h hu hs hb h1 hlo hhi hl hh fun v' hv=>k v' (by
  unfold Bd
  have:((bs.drop l).take (h-l)).length=h-l:=by rw [Aag,Abo];omega
  rw [this]
  simpa [List.map_take,List.map_drop] using hv)
theorem wG {lo hi:Option Operand} {bs:List Int} (hb:Wo G v bs) (l h:Nat) (hu:x.P.underlying t=some (.slice e)) (hs:∀ w,(sizeOf e).run x.P w=.ok 1 w) (h1:ev E o=some v) (hlo:bnd E lo 0 l) (hhi:bnd E hi bs.length h) (hl:l≤h) (hh:h≤bs.length)
  (k:∀ v',Wo G v' ((bs.drop l).take (h-l))→K v'):Y x W ⟨d,.slice t o lo hi none,ty,pos,aft,g⟩ E K :=
 pJ l h hu hs hb h1 hlo hhi hl hh fun v' hv=>k v' (by
  unfold Wo
  have:((bs.drop l).take (h-l)).length=h-l:=by rw [Aag,Abo];omega
  rw [this]
  simpa [List.map_take,List.map_drop] using hv)
end
theorem Kq {x:Cx} {E:Env} {K:Value→Prop} {d:Option Tmp} {ty:TypeId} {pos:String} {aft:Array Edge} {g:Option (Nat×Bool)} {o:Operand} {src dst e:TypeId} {v:Value} {bs:List UInt8} {c:Ctx} {G:Ah} {H:List Res}
  (hsr:x.P.underlying src=some (.slice e)) (he:x.P.underlying e=some (.int .u8)) (hd:x.P.underlying dst=some .string) (h:ev E o=some v) (hb:Bd G v bs) (k:K (.string ⟨bs.toArray⟩)) :
  Y x (St c G H) ⟨d,.convert src dst o,ty,pos,aft,g⟩ E K:=by
 obtain ⟨A,cap,rfl,hl,_,_,hA⟩:=hb
 refine Du (v:=.string ⟨bs.toArray⟩) (fun f hf w hw=>?_) k
 have hr:(convert src dst (.slice A bs.length cap)).run x.P w=.ok (.string ⟨bs.toArray⟩) w:=by
  rw [run_convert_bytes_string w src dst e _ bs.length cap hsr he hd]
  cases A with
  | none =>
   have:bs=[]:=by
    rcases AbP bs.length with h0 | h0
    ·exact AbR h0
    ·obtain ⟨a,ha,_⟩:=hA h0;cases ha
   subst this
   rfl
  | some a =>
   have hc:∀ j u,(bs.map Dy)[j]?=some u→w.cell? (a.add j)=some u:=by
    intro j u hj
    have hp:0<bs.length:=by
     rcases AbP bs.length with h0 | h0
     ·rw [AbR h0] at hj;cases hj
     ·exact h0
    obtain ⟨a',ha',hc⟩:=hA hp
    injection ha' with ha'
    subst ha'
    exact hw.cell (hc j u hj)
   have hlc:=run_loadCells_list (P:=x.P) w a (bs.map Dy) hc
   have hm:bs.map Dy=(bs.map fun b=>(b.toNat:Int)).map (Value.int .u8):=by simp
   rw [AaC,hm] at hlc
   rw [run_bytesToString w a bs.length cap _ hlc,foldl_push_bytes]
   have:((bs.map fun b=>(b.toNat:Int)).map fun n=>UInt8.ofNat n.toNat)=bs:=by
    rw [AbV]
    conv=>rhs;rw [← List.map_id bs]
    apply AbX
    intro b _
    simp
   rw [this]
   simp [ByteArray.empty,ByteArray.emptyWithCapacity]
   rfl
 simp [execOp,hf.ev h,hr]
theorem Wx {x:Cx} {W:World→Prop} {E:Env} {K:Value→Prop} {d:Option Tmp} {ty:TypeId} {pos:String} {aft:Array Edge} {g:Option (Nat×Bool)} {o p:Operand} {xt yt:TypeId} {s t:ByteArray} {b:Bool}
  (h1:ev E o=some (.string s)) (h2:ev E p=some (.string t)) (hb:(s.data.toList=t.data.toList)↔b=true) (k:K (.bool b)):Y x W ⟨d,.binOp .eql xt o p yt,ty,pos,aft,g⟩ E K:=by
 refine Du (v:=.bool b) (fun f hf w _=>?_) k
 have he:eqGuard .eql xt o p (.string s) (.string t)=pure ():=rfl
 have:(s.toList == t.toList)=b:=by
  have e1:∀ q:ByteArray,q.toList=q.data.toList:=fun q=>ByteArray.toList_eq q
  rw [e1,e1]
  cases b<;>simp_all
 simp only [execOp,hf.ev h1,hf.ev h2,he]
 simp [binOp,Op.stringOp,this]
section
variable {x:Cx} {W:World→Prop} {E:Env} {K:Value→Prop} {d:Option Tmp} {ty:TypeId} {pos:String} {aft:Array Edge} {g:Option (Nat×Bool)} {o p:Operand} {xt yt:TypeId}
theorem iH {a b:List UInt8} (h1:ev E o=some (.string ⟨a.toArray⟩)) (h2:ev E p=some (.string ⟨b.toArray⟩)) (hT:a=b→K (.bool true)) (hF:¬ a=b→K (.bool false)):Y x W ⟨d,.binOp .eql xt o p yt,ty,pos,aft,g⟩ E K:=by
 by_cases h:a=b
 ·exact Wx h1 h2 (b:=true) (by simp [h]) (hT h)
 ·exact Wx h1 h2 (b:=false) (by simp [h]) (hF h)
theorem tG {a b:Bool} (hu:x.P.underlying xt=some .bool) (h1:ev E o=some (.bool a)) (h2:ev E p=some (.bool b)) (hT:a=b→K (.bool true)) (hF:¬ a=b→K (.bool false)):Y x W ⟨d,.binOp .eql xt o p yt,ty,pos,aft,g⟩ E K:=by
 have hk:K (.bool (a == b)):=by
  by_cases h:a=b
  ·rw [beq_iff_eq.2 h];exact hT h
  ·rw [beq_eq_false_iff_ne.2 h];exact hF h
 refine Du (v:=.bool (a == b)) (fun f hf w _=>?_) hk
 have he:eqGuard .eql xt o p (.bool a) (.bool b)=pure ():=rfl
 have h:∀ q:Nat,(Op.equalIn (q+1) xt (.bool a) (.bool b)).run x.P w=.ok (a == b) w:=fun q=>by simp [Op.equalIn,run_underlying hu]
 have h':(binOp .eql xt (.bool a) (.bool b)).run x.P w=.ok (.bool (a == b)) w:=by
  simp only [binOp]
  simp [Op.equal,Op.maxDepth,h 9999]
 simp only [execOp,hf.ev h1,hf.ev h2,he]
 simp [h']
end
theorem Es.nil (G:Ah):Es G (.slice none 0 0) []:=⟨[],Sl.nil G 1,trivial⟩
theorem Cw.snoc {α β:Type} {R:α→β→Prop} {l:List α} {m:List β} {a:α} {b:β} (h:Cw R l m) (hab:R a b):Cw R (l++[a]) (m++[b]):=Cw.append h ⟨hab,trivial⟩
theorem Cp {v:Value} (h:v.oneCell'=true):∀ y∈[v],y.oneCell'=true:=by
 intro y hy
 obtain rfl:y=v:=by simpa using hy
 exact h
theorem Bd.one {G:Ah} {v:Value} {bs:List UInt8} (h:Bd G v bs):v.oneCell'=true:=by
 obtain ⟨_,_,rfl,_⟩:=h;rfl
def LB (G:Ah) (vs:List Value) (l:List (List UInt8)):Prop:=Cw (Bd G) vs l
theorem LB.mono {G G':Ah} (h:G.le G') {vs:List Value} {l:List (List UInt8)} (hb:LB G vs l):LB G' vs l:=Cw.mono (fun _ _=>Bd.mono h) hb
theorem LB.snoc {G:Ah} {vs:List Value} {l:List (List UInt8)} {v:Value} {b:List UInt8} (h:LB G vs l) (hb:Bd G v b):LB G (vs++[v]) (l++[b]):=Cw.snoc h hb
theorem LB.nil (G:Ah):LB G [] []:=trivial
theorem LB.one {G:Ah} {vs:List Value} {l:List (List UInt8)} (h:LB G vs l):∀ y∈vs,y.oneCell'=true:=by
 have key:∀ (vs:List Value) (l:List (List UInt8)),LB G vs l→∀ y∈vs,y.oneCell'=true:=by
  intro vs
  induction vs with
  | nil=>intro l _ y hy;cases hy
  | cons v vs ih =>
   intro l h y hy
   cases l with
   | nil=>exact h.elim
   | cons b l =>
    rcases AaV.1 hy with rfl | hy
    ·exact Bd.one h.1
    ·exact ih l h.2 y hy
 exact key vs l h
theorem iI (a:UInt8):IntKind.i64.wrap (a.toNat:Int)=(a.toNat:Int):=Ed (by have:=a.toNat_lt;omega)
theorem Bd.cast {G:Ah} {v:Value} {a b:List UInt8} (h:a=b) (hb:Bd G v a):Bd G v b:=h▸hb
theorem Es.cast {G:Ah} {v:Value} {a b:List (List UInt8)} (h:a=b) (hb:Es G v a):Es G v b:=h▸hb
theorem Wo.cast {G:Ah} {v:Value} {a b:List Int} (h:a=b) (hb:Wo G v a):Wo G v b:=h▸hb
theorem Es.of {G:Ah} {v:Value} {vs:List Value} {l:List (List UInt8)} (h:Sl G v 1 vs.length vs) (h2:LB G vs l):Es G v l:=⟨vs,by rw [← Cw.length h2];exact h,h2⟩
theorem Bd.ofSl {G:Ah} {v:Value} {n:Nat} {xs:List Value} {bs:List UInt8} (h:Sl G v 1 n xs) (hn:n=bs.length) (hx:xs=bs.map Dy):Bd G v bs:=by
 subst hn hx;exact h
theorem Es.ofSl {G:Ah} {v:Value} {n:Nat} {vs:List Value} {l:List (List UInt8)} (h:Sl G v 1 n vs) (hn:n=l.length) (h2:LB G vs l):Es G v l:=by
 subst hn;exact ⟨vs,h,h2⟩
def De (G:Ah) (v:Value) (l:List Nat):Prop:=Sl G v 1 l.length (l.map fun x:Nat=>.int .i64 (x:Int))
theorem De.mono {G G':Ah} (h:G.le G') {v:Value} {l:List Nat} (hb:De G v l):De G' v l:=Sl.mono h hb
theorem De.ofSl {G:Ah} {v:Value} {n:Nat} {xs:List Value} {l:List Nat} (h:Sl G v 1 n xs) (hn:n=l.length) (hx:xs=l.map fun x:Nat=>.int .i64 (x:Int)):De G v l:=by
 subst hn hx;exact h
section
variable {x:Cx} {W:World→Prop} {E:Env} {K:Value→Prop} {d:Option Tmp} {ty:TypeId} {pos:String} {aft:Array Edge} {g:Option (Nat×Bool)}
 {c:Ctx} {G:Ah} {H:List Res} {v:Value} {t e:TypeId} {o q:Operand} {kd:IntKind} {j:Int}
theorem Ct {l:List Nat} (hb:De G v l) (i:Nat) (hu:x.P.underlying t=some (.slice e)) (hs:∀ w,(sizeOf e).run x.P w=.ok 1 w) (h1:ev E o=some v) (h2:ev E q=some (.int kd j)) (hj:j=(i:Int)) (hi:i<l.length)
  (k:∀ p,Fc G p=some (.int .i64 ((l[i]:Nat):Int))→K (.pointer (some p))):Y x W ⟨d,.indexAddr t o q,ty,pos,aft,g⟩ E K :=
 Ee i hu hs hb h1 h2 hj (by simp [hi]) k
end
variable {c:Ctx} {G G':Ah} {H H':List Res} {w w':World}
def Fl (P:Program) (l:Nat) (args:List Value) (G:Ah) (H:List Res) (R:Value→Ah→List Res→Prop):Prop :=
 ∀ w,St ⟨w,G,Bj H⟩ G H w→YieldAt (RF none) 0 P l args.toArray w fun e w'=>∃ v G' H',e=.returned v∧St ⟨w,G,Bj H⟩ G' H' w'∧R v G' H'
theorem YieldAt.mono' {F:Fence} {m:Nat} {P:Program} {l:Nat} {args:Array Value} {W:World} {R R':Ending→World→Prop} (h:YieldAt F m P l args W R) (hr:∀ e w,R e w→R' e w):YieldAt F m P l args W R':=by
 obtain ⟨fn,tmps,assign,body,h1,h2⟩:=h
 exact ⟨fn,tmps,assign,body,h1,h2.mono hr⟩
theorem Fl.call {P:Program} {l:Nat} {args:List Value} {H1:List Res} {R:Value→Ah→List Res→Prop} (h:Fl P l args G H1 R) (hs:St c G (H1++H) w) :
  YieldAt (RF none) 0 P l args.toArray w fun e w'=>∃ v G' H',e=.returned v∧G.le G'∧St c G' (H'++H) w'∧R v G' H':=by
 have hpw:=Abq.1 hs.apart
 have h0:St ⟨w,G,Bj H1⟩ G H1 w:=⟨rfl,rfl,rfl,AaR _,fun _ _ _=>rfl,gLr G,fun k o hk=>.inl hk,hs.ghost,fun r hr=>hs.hold r (AaY _ hr),
  fun r hr k hk=>⟨(hs.off r (AaY _ hr) k hk).1,.inr ⟨r,hr,hk⟩⟩,hpw.1,AaR _⟩
 refine YieldAt.mono' (h w h0) fun e w' ⟨v,G',H',he,h',hR⟩=>⟨v,G',H',he,h'.le,?_,hR⟩
 refine St.step hs h'.os h'.tape h'.output h'.size (fun k hk hk'=>h'.old k hk (fun ⟨r,hr,hrk⟩=>hk' r hr hrk)) h'.le h'.new (fun k o hk _=>h'.ghost k o hk) h'.hold ?_ h'.apart h'.drn
 intro r hr k hk
 obtain ⟨h1,h2⟩:=h'.off r hr k hk
 exact ⟨h1,h2⟩
theorem pL {P:Program} {N l:Nat} {E:Env} {g:Operand} {ao:List Operand} {ats:Array TypeId} {args:List Value} {H1:List Res} {R:Value→Ah→List Res→Prop} {d:Option Tmp} {ty:TypeId} {pos:String} {aft:Array Edge} {gd:Option (Nat×Bool)}
  {Q:Exit→Env→World→Prop} {K:Value→World→Prop} (hs:St c G (H1++H) w) (hg:ev E g=some (.func (.yield l) #[] #[])) (ha:ao.map (ev E)=args.map some) (h:Fl P l args G H1 R)
  (kk:∀ v G' H' w',R v G' H'→G.le G'→St c G' (H'++H) w'→K v w'):S ⟨P,N,none⟩ ⟨d,.call { callee:=.value g,args:=ao.toArray,argTypes:=ats },ty,pos,aft,gd⟩ Q K E w:=by
 intro a hA next hn
 have hargs:ao.map a.eval=args:=by
  have:∀ (ao:List Operand) (args:List Value),ao.map (ev E)=args.map some→ao.map a.eval=args:=by
   intro ao
   induction ao with
   | nil=>intro args h;cases args with
    | nil=>rfl
    | cons _ _=>cases h
   | cons o ao ih =>
    intro args h
    cases args with
    | nil=>cases h
    | cons v args =>
     simp only [Aar,List.cons.injEq] at h
     simp [hA.ev h.1,ih args h.2]
  exact this ao args ha
 obtain ⟨fn,tmps,assign,body,hy,hR⟩:=h.call hs
 refine ⟨fun _ _=>trivial,?_⟩
 rw [Oper.semAt_eq _ _ _ (fun c hc=>by cases hc)]
 have hr:(execOp a.eval ⟨d,.call { callee:=.value g,args:=ao.toArray,argTypes:=ats },ty,pos,aft,gd⟩).run P w=.ok (.round l fn tmps assign body) w:=by
  simp [execOp,resolve,Deferred.ofValue,hA.ev hg,invoke,hargs,hy]
 rw [hr]
 refine ⟨fun h=>Wn,?_⟩
 refine RoundIn.mono hR ?_
 intro e w' he
 obtain ⟨v,G',H',rfl,hle,hs',hR⟩:=he
 exact hn _ _ (kk v G' H' w' hR hle hs')
@[reducible] def nm (K:Env→World→Prop):Exit→Env→World→Prop
 | .normal,E,w=>K E w
 | _,_,_=>False
theorem Ag.params {N:Nat}:∀ (ps:List (Nat×Value)) {L:List (Nat×Value)} {t:Array Value},Ag N ⟨[],L⟩ { tmps:=t,defers:=[] }→(∀ p∈ps,p.1<N) →
  Ag N ⟨[],ps.reverse++L⟩ { tmps:=ps.foldl (fun t (p:Nat×Value)=>t.setIfInBounds p.1 p.2) t,defers:=[] }
 | [],L,t,h,_=>h
 | (p,v)::ps,L,t,h,hp=>by
  have h1:=h.put (some p) v (fun q hq=>by cases hq;exact hp (p,v) Di)
  have h2:=Ag.params ps (L:=(p,v)::L) (t:=t.setIfInBounds p v) h1 (fun q hq=>hp q (by simp [hq]))
  simpa using h2
theorem Fl.of_T {P:Program} {N l:Nat} {rec:Loop} {args:List Value} {ps:List Nat} {L:List (Nat×Value)} {H:List Res} {R:Value→Ah→List Res→Prop}
  (hA:Ag N ⟨[],L⟩ { tmps:=rec.tmps,defers:=[] }) (hps:rec.params=ps.toArray) (hn:args.length=ps.length) (hN:∀ p∈ps,p<N) (hr:rec.state=.ready)
  (h:∀ w0,St ⟨w0,G,Bj (.obj l (.loop rec)::H)⟩ G (.obj l (.loop rec)::H) w0 →
   T ⟨P,N,some l⟩ rec.assign (nm fun E1 w1=>St ⟨w0,G,Bj (.obj l (.loop rec)::H)⟩ G (.obj l (.loop rec)::H) w1 ∧
    ∀ w2,St ⟨w0,G,Bj (.obj l (.loop rec)::H)⟩ G (.obj l (.loop { rec with state:=.busy })::H) w2 →
     T ⟨P,N,some l⟩ rec.body (nm fun _ w3=>∃ G3 H3,St ⟨w0,G,Bj (.obj l (.loop rec)::H)⟩ G3 (.obj l (.loop { rec with state:=.busy })::H3) w3∧R (.bool true) G3 (.obj l (.loop { rec with state:=.ready,pending:=none })::H3)) E1 w2)
    ⟨[],(ps.zip args).reverse++L⟩ w0):Fl P l args G (.obj l (.loop rec)::H) R:=by
 intro w hs
 have hl:w.heap[l]?=some (.loop rec):=hs.hold (.obj l (.loop rec)) Di
 have hy:=run_yield (P:=P) (args:=args.toArray) hl (by rw [hps];simpa using hn)
 rw [hps] at hy
 refine ⟨_,_,_,_,hy,?_⟩
 refine roundIn_of_wpIn (by trivial) ?_
 have hAp:Ag N ⟨[],(ps.zip args).reverse++L⟩ { tmps:=(ps.zip args).foldl (fun t (p:Nat×Value)=>t.setIfInBounds p.1 p.2) rec.tmps,defers:=[] } :=
  Ag.params (ps.zip args) hA (fun p hp=>hN _ (List.of_mem_zip hp).1)
 have h1:=h w hs _ hAp
 have e1:(ps.toArray.zip args.toArray).foldl (fun tmps x=>match x with | (t,a)=>tmps.setIfInBounds t a) rec.tmps=(ps.zip args).foldl (fun t (p:Nat×Value)=>t.setIfInBounds p.1 p.2) rec.tmps:=by
  rw [List.zip_toArray,List.foldl_toArray]
 rw [e1]
 refine wpIn_mono h1 ?_
 rintro e a1 w1 ⟨E1,hE1,hq⟩
 cases e<;>try exact hq.elim
 obtain ⟨hs1,hb⟩:=hq
 have hl1:w1.heap[l]?=some (.loop rec):=hs1.hold (.obj l (.loop rec)) Di
 have hlt1:=Dc hl1
 refine ⟨_,run_beginRound hl1 hr,?_⟩
 have hs2:St ⟨w,G,Bj (.obj l (.loop rec)::H)⟩ G (.obj l (.loop { rec with state:=.busy })::H) (w1.putObj l (.loop { rec with state:=.busy })) :=
  hs1.write rfl rfl rfl Di (fun k _ hk=>World.putObj_heap_other hk) (World.putObj_heap_same hlt1) (fun k hk=>.inl hk)
 refine wpIn_mono (hb _ hs2 a1 hE1) ?_
 rintro e a3 w3 ⟨E3,hE3,hq⟩
 cases e<;>try exact hq.elim
 obtain ⟨G3,H3,hs3,hR⟩:=hq
 have hl3:w3.heap[l]?=some (.loop { rec with state:=.busy }):=hs3.hold (.obj l (.loop { rec with state:=.busy })) Di
 refine ⟨_,_,run_endRound none hl3,.bool true,G3,_,rfl,?_,hR⟩
 exact hs3.write rfl rfl rfl Di (fun k _ hk=>World.putObj_heap_other hk) (World.putObj_heap_same (Dc hl3)) (fun k hk=>.inl hk)
theorem iJ {P:Program} {N gf:Nat} {E:Env} {g:Operand} {ps:Array Tmp} {assign body:Code} {Q:Exit→Env→World→Prop} {lb:List Value} {fn:Func} {H1:List Res} {R:Ah→List Res→Prop}
  (hs : St c G (H1 ++ H) w) (hg : ev E g = some (.func (.func gf) #[] lb.toArray)) (hfn : P.funcs[gf]? = some fn) (hb : fn.body.isSome = true) (hnm : (fn.name == "runtime.NumGoroutine") = false)
  (hit:∀ (l D:Nat) (rec:Loop),rec.params=ps→rec.assign=assign→rec.body=body→rec.state=.ready→rec.pending=none→Ag N ⟨[],E.l⟩ { tmps:=rec.tmps,defers:=[] } →
   Ba P gf (.func (.yield l) #[] #[]::lb) G (.obj l (.loop rec)::.obj D (.deferred (some []))::H1) fun _ G' H'=>∃ H2,H'=.obj l (.loop rec)::.obj D (.deferred (some []))::H2∧R G' H2)
  (kk:∀ (l D:Nat) o G' H2 w',R G' H2→G.le G'→St c G' (.obj D (.deferred (some []))::.obj l o::(H2++H)) w'→Q .normal ⟨{ target:=.collected D,args:=#[] }::E.d,E.l⟩ w') :
  T ⟨P,N,none⟩ (.rangeFunc g ps assign body) Q E w:=by
 intro a hA
 refine wpIn_rangeFunc fun f _=>?_
 obtain ⟨rec,hrec⟩:∃ rec:Loop,rec={ state:=.ready,pending:=none,fn:=f,tmps:=a.tmps,params:=ps,assign,body,defers:=w.heap.size }:=⟨_,rfl⟩
 have hs1:St c G (.obj w.heap.size (.deferred (some []))::(H1++H)) (w.alloc (.deferred (some []))):=hs.alloc _ (World.alloc_heap_new w _) (fun k hk=>hk)
 have hs2:St c G (.obj (w.heap.size+1) (.loop rec)::.obj w.heap.size (.deferred (some []))::(H1++H)) ((w.alloc (.deferred (some []))).alloc (.loop rec)):=by
  have h0:(w.alloc (.deferred (some []))).heap.size=w.heap.size+1:=by simp
  refine hs1.alloc _ ?_ (fun k hk=>by rw [h0];exact hk)
  show ((w.alloc (.deferred (some []))).alloc (.loop rec)).heap[w.heap.size+1]?=_
  rw [← h0];exact World.alloc_heap_new _ _
 have hcall:=(hit (w.heap.size+1) w.heap.size rec Z66 Z66 Z66 Z66 Z66 (by rw [hrec];exact ⟨hA.size,rfl,hA.look⟩)).call (H:=H) hs2
 have hbn:¬ fn.body=none:=by intro h0;rw [h0] at hb;cases hb
 have hnm' : ¬ fn.name = "runtime.NumGoroutine" := by simpa using hnm
 obtain ⟨W1,hW1⟩:∃ W1,W1=(w.alloc (.deferred (some []))).alloc (.loop rec):=⟨_,rfl⟩
 rw [← hW1] at hcall
 refine ⟨w.heap.size+1,[{ target:=.collected w.heap.size,args:=#[] }],W1,{ target:=.fn (.func gf) lb.toArray,args:=#[.func (.yield (w.heap.size+1)) #[] #[]] },W1,gf,
  #[.func (.yield (w.heap.size+1)) #[] #[]]++lb.toArray,W1,by rw [hW1,hrec];exact run_enterLoop_outer _ _ _ _ _,?_,fun _ _=>trivial,?_,(fun h=>by cases h),?_⟩
 ·simp only [resolve,hA.ev hg]
  simp [go_sem]
 ·simp [invoke,callFunc,hfn,hnm',hbn,go_sem]
 ·have h2:=(callsIn_wide (n:=0)).2 hcall
  have eA:(#[.func (.yield (w.heap.size+1)) #[] #[]]++lb.toArray:Array Value)=(.func (.yield (w.heap.size+1)) #[] #[]::lb).toArray:=by simp
  rw [eA]
  refine CallsIn.mono (F:=RF none) (n:=0-1) h2 ?_
  rintro e w' ⟨v,G',H',rfl,hle,hs',H2,rfl,hR⟩
  have hl:w'.heap[w.heap.size+1]?=some (.loop rec):=hs'.hold (.obj (w.heap.size+1) (.loop rec)) Di
  refine ⟨none,w'.putObj (w.heap.size+1) (.loop { rec with state:=.exhausted }),by rw [run_endLoop (P:=P) hl (by rw [hrec];simp),show rec.pending=none by rw [hrec]],?_⟩
  have hs'':St c G' (.obj (w.heap.size+1) (.loop rec)::(.obj w.heap.size (.deferred (some []))::H2++H)) w':=hs'
  have hs4:St c G' (.obj (w.heap.size+1) (.loop { rec with state:=.exhausted })::(.obj w.heap.size (.deferred (some []))::H2++H)) (w'.putObj (w.heap.size+1) (.loop { rec with state:=.exhausted })) :=
   hs''.write rfl rfl rfl Di (fun k _ hk=>World.putObj_heap_other hk) (World.putObj_heap_same (Dc hl)) (fun k hk=>.inl hk)
  have hs5:=hs4.front 1 rfl rfl
  exact ⟨⟨{ target:=.collected w.heap.size,args:=#[] }::E.d,E.l⟩,⟨hA.size,by simp [hA.defs],hA.look⟩,kk _ _ _ G' H2 _ hR hle (by simpa using hs5)⟩
def pM:List Deferred→World→World→Prop
 | [],w,w'=>w'=w
 | d::ds,w,w'=>∃ D,d={ target:=.collected D,args:=#[] }∧w.heap[D]?=some (.deferred (some []))∧pM ds (w.putObj D (.deferred none)) w'
def RtM (P:Program) (N:Nat) (fn:Func) (R:Value→World→Prop):Exit→Env→World→Prop
 | .normal,E,w|.ret,E,w=>∃ w',pM E.d w w'∧∃ v,(∀ a,Ag N E a→(results fn a.tmps).run P w'=.ok v w')∧R v w'
 | _,_,_=>False
theorem Ry {P:Program} {fn:Func} {tmps:Array Value} {R:Ending→World→Prop} {v:Value}:∀ (ds:List Deferred) (w w':World),pM ds w w'→(results fn tmps).run P w'=.ok v w'→R (.returned v) w' →
  LeavesInM (RF none) 0 P fn tmps R ds .returning w
 | [],w,w',h,hr,hR=>by
  obtain rfl:w'=w:=h
  exact ⟨v,hr,hR⟩
 | d::ds,w,w',⟨D,hd,hD,hm⟩,hr,hR=>⟨by simp,.inl ⟨D,_,by rw [hd],run_takeDeferred hD,Ry ds _ w' hm hr hR⟩⟩
theorem iK {P:Program} {f:FuncId} {fn:Func} {N:Nat} {c:Code} {args:List Value} {w:World} {R:Value→World→Prop} {L:List (Nat×Value)}
  (hf:P.funcs[f]?=some fn) (hb:fn.body=some c) (hN:fn.ntmps=N) (hn:args.length≤N) (hL:Nu 0 args=L)
  (h:T ⟨P,N,none⟩ c (RtM P N fn R) ⟨[],L⟩ w):Calls P f args.toArray w fun e w'=>∃ v,e=.returned v∧R v w':=by
 subst hL
 refine (callsIn_wide (n:=0)).1 (callsIn_of_wp_marks hf hb trivial ?_ rfl)
 have ha:Ag N ⟨[],Nu 0 args⟩ { tmps:=args.toArray++Array.replicate (fn.ntmps-args.toArray.size) undef,defers:=[] }:=by
  refine ⟨by simp [hN];omega,rfl,fun t v ht=>?_⟩
  obtain ⟨_,h2⟩:=Pj args 0 t v ht
  have hlt:t<args.length:=by
   rcases AaM t args.length with h' | h'
   ·exact h'
   ·rw [AaL Bm] at h2;cases h2
  rw [Array.getElem?_append_left (by simpa using hlt)]
  simpa using h2
 refine wpIn_mono (h _ ha) ?_
 rintro e a' w' ⟨E,hE,hq⟩
 cases e<;>simp only [RtM] at hq<;>try exact hq.elim
 all_goals
  obtain ⟨w2,hd,v,hv,hR⟩:=hq
  have:=Ry (R:=fun e w'=>∃ v,e=.returned v∧R v w') _ _ _ hd (hv a' hE) ⟨v,rfl,hR⟩
  rw [← hE.defs] at this
  exact this
theorem Ba.of_TM {P:Program} {f:FuncId} {fn:Func} {N:Nat} {c:Code} {args:List Value} {G:Ah} {H:List Res} {R:Value→Ah→List Res→Prop} (L:List (Nat×Value))
  (hf:P.funcs[f]?=some fn) (hb:fn.body=some c) (hN:fn.ntmps=N) (hn:args.length≤N) (hL:Nu 0 args=L)
  (h:∀ w,St ⟨w,G,Bj H⟩ G H w→T ⟨P,N,none⟩ c (RtM P N fn fun v w'=>∃ G' H',St ⟨w,G,Bj H⟩ G' H' w'∧R v G' H') ⟨[],L⟩ w):Ba P f args G H R:=fun w hw =>
 (iK hf hb hN hn hL (h w hw)).mono fun _ _ ⟨v,he,G',H',hs,hR⟩=>⟨v,G',H',he,hs,hR⟩
theorem pN {P:Program} {N D:Nat} {E:Env} {w:World} {fn:Func} {rs:List ResultVar} {vs:List Value} {R:Value→World→Prop} (hs:St c G (.obj D (.deferred (some []))::H) w) (hr:fn.results=rs.toArray)
  (hd:E.d=[{ target:=.collected D,args:=#[] }]) (h:∀ w',St c G H w'→Cw (Om P E w') rs vs∧R (tup vs) w'):RtM P N fn R .ret E w:=by
 have hD:w.heap[D]?=some (.deferred (some [])):=hs.hold (.obj D (.deferred (some []))) Di
 have h2:St c G (.obj D (.deferred none)::H) (w.putObj D (.deferred none)) :=
  hs.write rfl rfl rfl Di (fun k _ hk=>World.putObj_heap_other hk) (World.putObj_heap_same (Dc hD)) (fun k hk=>.inl hk)
 obtain ⟨h3,h4⟩:=h _ h2.drop
 exact ⟨_,by rw [hd];exact ⟨D,rfl,hD,rfl⟩,_,Ln hr h3,h4⟩
theorem He {x:Cx} {W:World→Prop} {E:Env} {K:Value→Prop} {d:Option Tmp} {ty:TypeId} {pos:String} {aft:Array Edge} {g:Option (Nat×Bool)} {f:FuncId} {caps:List Operand} {vs:List Value}
  (h:caps.map (ev E)=vs.map some) (k:K (.func (.func f) #[] vs.toArray)):Y x W ⟨d,.makeFunc (.func f) #[] caps.toArray,ty,pos,aft,g⟩ E K :=
 Du (v:=.func (.func f) #[] vs.toArray) (fun a ha w _=>by
  have:∀ (ao:List Operand) (args:List Value),ao.map (ev E)=args.map some→ao.map a.eval=args:=by
   intro ao
   induction ao with
   | nil=>intro args h;cases args with
    | nil=>rfl
    | cons _ _=>cases h
   | cons o ao ih =>
    intro args h
    cases args with
    | nil=>cases h
    | cons v args =>
     simp only [Aar,List.cons.injEq] at h
     simp [ha.ev h.1,ih args h.2]
  simp [execOp,Instr.makeFunc,this caps vs h]) k
def Cell (G:Ah) (b:Nat) (v:Value):Prop:=Fc G ⟨b,0,none⟩=some v
theorem Cell.mono {G G':Ah} (h:G.le G') {b:Nat} {v:Value} (hc:Cell G b v):Cell G' b v:=Km h hc
theorem St.fixBlk {b e:Nat} {cs:List Value} (hs:St c G (.blk b e cs::H) w) (hM:∀ k,(Res.blk b e cs).foot k→¬ c.M k):∃ G',G.le G'∧(∀ (i:Nat) (v:Value),cs[i]?=some v→Fc G' ⟨b,i,none⟩=some v)∧St c G' H w:=by
 obtain ⟨G',h1,h2,h3⟩:=hs.freeze hM
 refine ⟨G',h1,fun i v hv=>?_,h3⟩
 have h4:G' b=some (.cells cs.toArray e (0,0)):=(h2 b rfl).trans (hs.hold (.blk b e cs) Di)
 simp [Fc,h4,hv]
theorem Gb {w:World} {G:Ah}:∀ k,¬ (⟨w,G,Bj []⟩:Ctx).M k:=fun _ h=>by
 obtain ⟨r,hr,_⟩:=h
 cases hr
theorem noMh {w0:World} {G0:Ah} {r:Res} {H0:List Res} (hs:St ⟨w0,G0,Bj H0⟩ G (r::H) w) (h:Cw (fun s s':Res=>∀ k,s.foot k→s'.foot k) H0 H):∀ k,r.foot k→¬ (⟨w0,G0,Bj H0⟩:Ctx).M k:=by
 intro k hk ⟨s,hs',hsk⟩
 have key:∀ (H0 H:List Res),Cw (fun s s':Res=>∀ k,s.foot k→s'.foot k) H0 H→s∈H0→∃ s'∈H,s'.foot k:=by
  intro H0
  induction H0 with
  | nil=>intro H _ h;cases h
  | cons a H0 ih =>
   intro H h hm
   cases H with
   | nil=>exact h.elim
   | cons b H =>
    rcases AaV.1 hm with rfl | hm
    ·exact ⟨b,by simp,h.1 k hsk⟩
    ·obtain ⟨s',h1,h2⟩:=ih H h.2 hm
     exact ⟨s',by simp [h1],h2⟩
 obtain ⟨s',h1,h2⟩:=key H0 H h hs'
 exact (AbO.1 hs.apart).1 _ h1 k hk h2
section
variable {x:Cx} {Q:Exit→Env→World→Prop} {E:Env} {K:Value→World→Prop} {d:Option Tmp} {ty:TypeId} {pos:String} {aft:Array Edge} {g:Option (Nat×Bool)}
theorem Jr {t e:TypeId} {o:Operand} {n:Nat} {v:Value} {xs:List Value} (hs:St c G (.row e 1 v n xs::H) w) (hv:∃ b,v=.slice (some ⟨b,0,none⟩) n n) (ho:ev E o=some v) (ht:x.P.underlying t=some (.slice e)) (he:x.P.underlying e=some (.int .u8))
  (hM:∀ b,v.ownBlock=some b→¬ c.M b) (kk:∀ G' w',G.le G'→Sl G' v 1 n xs→St c G' H w'→K v w'):S x ⟨d,.convert t t o,ty,pos,aft,g⟩ Q K E w:=by
 obtain ⟨b,rfl⟩:=hv
 have hown:w.ownsRow 0 e 1 (.slice (some ⟨b,0,none⟩) n n) n xs:=hs.hold (.row e 1 _ n xs) Di
 rcases hown.2 with ⟨h,_⟩ | ⟨g',cp,cur,h,h0,hh,hnc,hcm,hsz,htk⟩
 ·cases h
 injection h with h1 h2 h3
 injection h1 with h1
 injection h1 with h1
 subst h1 h3
 have hcur:cur=xs.toArray:=by
  apply Array.ext'
  rw [← htk,← hsz,← Abe,Aaj]
 subst hcur
 have hlt:=Dc hh
 have hw':(w.freeze ⟨b,xs.toArray.size,none⟩ 1).heap[b]?=some (.cells xs.toArray e (xs.toArray.size,xs.toArray.size+1)):=by
  unfold World.freeze
  rw [if_neg Lk]
  show (w.heap.modify b _)[b]?=_
  rw [Abx]
  simp [hh]
 have hs1:St c G (.obj b (.cells xs.toArray e (xs.toArray.size,xs.toArray.size+1))::H) (w.freeze ⟨b,xs.toArray.size,none⟩ 1):=by
  refine hs.write ?_ ?_ ?_ ?_ ?_ hw' ?_
  ·unfold World.freeze;rw [if_neg Lk]
  ·unfold World.freeze;rw [if_neg Lk]
  ·unfold World.freeze;rw [if_neg Lk]
  ·unfold World.freeze;rw [if_neg Lk];simp
  ·intro k hk hf
   have hne:b≠k:=fun e=>hf (by simp [Res.foot,Value.ownBlock,e])
   unfold World.freeze;rw [if_neg Lk]
   show (w.heap.modify b _)[k]?=_
   rw [Abx,if_neg hne]
  ·intro k hk
   exact .inl (by have:k=b:=hk;simp [Res.foot,Value.ownBlock,this])
 obtain ⟨G',hG,hg,hs2⟩:=hs1.freeze (fun k hk=>hM k (by have:k=b:=hk;simp [Value.ownBlock,this]))
 refine Ko rfl fun a ha=>⟨.slice (some ⟨b,0,none⟩) n n,_,?_,kk _ _ hG ?_ hs2⟩
 ·have hsh:w.shape? b=some (e,xs.toArray.size):=by unfold World.shape?;rw [hh]
  simp [execOp,ha.ev ho,convert,run_underlying ht,run_underlying he,markStringish,hsh]
 ·exact Sl.of_blk ((hg b rfl).trans hw') hown.1 hcm
theorem Dw {o p:Operand} {t e:TypeId} {kd kd':IntKind} {u:Value} {bytes n m:Nat} (hs:St c G H w) (ht:x.P.underlying t=some (.slice e)) (hi:TI x.P e u 1 bytes) (hu:u.cells=#[u])
  (ho:ev E o=some (.int kd (n:Int))) (hp:ev E p=some (.int kd' (m:Int))) (hnm:n≤m) (hb:bytes*m≤281474976710656) (hm:m≤281474976710656)
  (kk:∀ b w',St c G (.row e 1 (.slice (some ⟨b,0,none⟩) n m) n (List.replicate n u)::H) w'→K (.slice (some ⟨b,0,none⟩) n m) w'):S x ⟨d,.makeSlice t o p,ty,pos,aft,g⟩ Q K E w:=by
 obtain ⟨i,hi,hz,hik,hib⟩:=hi
 have hr:=run_make (P:=x.P) w t e i u ht hi hz kd kd' (n:Int) (m:Int) Bm Bm (by
  rw [hib]
  have h:((bytes*m:Nat):Int)≤281474976710656:=by omega
  rwa [Int.natCast_mul] at h) Bm
 simp only [AbE,hik,Abf] at hr
 have hmc:(madeCells u.cells m).toList=List.replicate m u:=by
  rw [hu]
  apply Abb
  ·simp [madeCells]
  ·intro j h1 h2
   have hj:j<m:=by simpa using h2
   simp [madeCells,Nat.mod_one]
 have hrow:Res.holds (w.alloc (.cells (madeCells u.cells m) e)) (.row e 1 (.slice (some ⟨w.heap.size,0,none⟩) n m) n (List.replicate n u)):=by
  refine ⟨by simp,.inr ⟨_,_,_,rfl,Aas _,heap_alloc_new w _,hnm,by unfold maxLen;omega,by rw [size_madeCells,Abf],?_⟩⟩
  rw [hmc,Abf,List.take_replicate,Nat.min_eq_left hnm]
 refine Ko rfl fun a ha=>⟨_,_,?_,kk w.heap.size _ (hs.alloc _ hrow (fun j hj=>by
  have:w.heap.size=j:=by simpa [Res.foot,Value.ownBlock] using hj
  exact this.symm))⟩
 simp only [execOp,ha.ev ho,ha.ev hp]
 simp [hr]
end
section
variable {x:Cx} {W:World→Prop} {E:Env} {K:Value→Prop} {d:Option Tmp} {ty:TypeId} {pos:String} {aft:Array Edge} {g:Option (Nat×Bool)} {c:Ctx} {G:Ah} {H:List Res}
theorem Jh {o q:Operand} {t e:TypeId} {kd:IntKind} {n s b off m:Nat} {j:Int} (i:Nat) (hu:x.P.underlying t=some (.array n e)) (hs:∀ w,(sizeOf e).run x.P w=.ok s w)
  (h1:ev E o=some (.pointer (some ⟨b,off,none⟩))) (h2:ev E q=some (.int kd j)) (hj:j=(i:Int)) (hlt:i<n) (hm:off+i*s=m)
  (k:K (.pointer (some ⟨b,m,none⟩))):Y x W ⟨d,.indexAddr t o q,ty,pos,aft,g⟩ E K:=by
 subst hj hm
 refine Du (v:=.pointer (some ⟨b,off+i*s,none⟩)) (fun f hf w _=>?_) k
 have ha:(⟨b,off,none⟩:Addr).add (i*s)=⟨b,off+i*s,none⟩:=by
  unfold Addr.add;split
  ·rename_i h0;simp [h0]
  ·rfl
 simp [execOp,hf.ev h1,hf.ev h2,Instr.indexAt,asIntOf,run_underlying hu,hs w,hlt,Instr.sureAddr,ha]
theorem Be {o q:Operand} {t e:TypeId} {kd:IntKind} {n cap b:Nat} {j:Int} (i:Nat) (hu:x.P.underlying t=some (.slice e)) (hs:∀ w,(sizeOf e).run x.P w=.ok 1 w)
  (h1:ev E o=some (.slice (some ⟨b,0,none⟩) n cap)) (h2:ev E q=some (.int kd j)) (hj:j=(i:Int)) (hlt:i<n)
  (k:K (.pointer (some ⟨b,i,none⟩))):Y x W ⟨d,.indexAddr t o q,ty,pos,aft,g⟩ E K:=by
 subst hj
 refine Du (v:=.pointer (some ⟨b,i,none⟩)) (fun f hf w _=>?_) k
 have ha:(⟨b,0,none⟩:Addr).add (i*1)=⟨b,i,none⟩:=by
  rw [Abf]
  unfold Addr.add;split
  ·rename_i h0;simp [h0]
  ·simp
 simp [execOp,hf.ev h1,hf.ev h2,Instr.indexAt,asIntOf,run_underlying hu,hs w,hlt]
 rw [← Abf i,ha,Abf]
end
section
variable {x:Cx} {Q:Exit→Env→World→Prop} {E:Env} {K:Value→World→Prop} {w:World} {d:Option Tmp} {ty:TypeId} {pos:String} {aft:Array Edge} {g:Option (Nat×Bool)} {c:Ctx} {G:Ah} {H:List Res}
theorem Bz {o p:Operand} {t b i e n cap:Nat} {v:Value} {xs:List Value} (hs:St c G (.row e 1 (.slice (some ⟨b,0,none⟩) n cap) n xs::H) w) (hS:∀ w,(sizeOf t).run x.P w=.ok 1 w) (h1:ev E o=some (.pointer (some ⟨b,i,none⟩))) (h2:ev E p=some v)
  (hone:v.oneCell'=true) (hi:i<n) (k:∀ w',St c G (.row e 1 (.slice (some ⟨b,0,none⟩) n cap) n (xs.set i v)::H) w'→K undef w'):S x ⟨d,.store t o p,ty,pos,aft,g⟩ Q K E w:=by
 have hown:w.ownsRow 0 e 1 (.slice (some ⟨b,0,none⟩) n cap) n xs:=hs.hold (.row e 1 _ n xs) Di
 rcases hown.2 with ⟨h,_⟩ | ⟨g',cp,cur,h,h0,hh,hnc,hcm,hsz,htk⟩
 ·cases h
 injection h with h1' h2' h3'
 injection h1' with h1'
 injection h1' with h1'
 subst h1' h3'
 rw [Abf] at hsz htk
 have hb:St c G (.blk b e cur.toList::H) w:=hs.write rfl rfl rfl (AaR _) (fun _ _ _=>rfl) (by simpa [Res.holds] using hh) (fun k hk=>.inl (by have:k=b:=hk;simp [Res.foot,Value.ownBlock,this]))
 refine Gc hb hS h1 h2 hone (by rw [Abe];omega) rfl fun w' hs'=>k w' ?_
 have hh':w'.heap[b]?=some (.cells (cur.toList.set i v).toArray e (0,0)):=hs'.hold (.blk b e _) Di
 refine hs'.write rfl rfl rfl (AaR _) (fun _ _ _=>rfl) ⟨by rw [AaP];exact hown.1,.inr ⟨b,cap,_,rfl,h0,hh',hnc,hcm,by simp [hsz],?_⟩⟩ (fun k hk=>.inl (by
  have h9:b=k:=by simpa [Res.foot,Value.ownBlock] using hk
  exact h9.symm))
 rw [Abf,← htk]
 simp [List.take_set]
end
theorem Yy {x:Cx} {Q:Exit→Env→World→Prop} {E:Env} {w:World} {c d:Code} (I:Env→World→Prop)
  (h:T x c (sq (fun E w=>∃ L,Jq L E.l∧I ⟨E.d,L⟩ w) Q) E w) (h2:∀ E w,I E w→T x d Q E w):T x (.seq c d) Q E w:=by
 refine T_seq (mL h fun e E w hq=>?_)
 cases e with
 | normal=>obtain ⟨L,hs,hI⟩:=hq;exact Oh L hs (h2 _ _ hI)
 | _=>exact hq
theorem Lo {x:Cx} {Q:Exit→Env→World→Prop} {E:Env} {w:World} {c:Code} (I:Env→World→Prop)
  (h:T x c (sq (fun E w=>∃ L,Jq L E.l∧I ⟨E.d,L⟩ w) Q) E w) (h2:∀ D M L w,Jq L M→I ⟨D,L⟩ w→Q .normal ⟨D,M⟩ w):T x c Q E w:=by
 refine mL h fun e E w hq=>?_
 cases e with
 | normal=>obtain ⟨L,hs,hI⟩:=hq;exact h2 _ _ _ _ hs hI
 | _=>exact hq
theorem evals {N:Nat} {E:Env} {a:Act} (hA:Ag N E a):∀ (ao:List Operand) (args:List Value),ao.map (ev E)=args.map some→ao.map a.eval=args:=by
 intro ao
 induction ao with
 | nil=>intro args h;cases args with
  | nil=>rfl
  | cons _ _=>cases h
 | cons o ao ih =>
  intro args h
  cases args with
  | nil=>cases h
  | cons v args =>
   simp only [Aar,List.cons.injEq] at h
   simp [hA.ev h.1,ih args h.2]
section
variable {x:Cx} {Q:Exit→Env→World→Prop} {E:Env} {K:Value→World→Prop} {w:World} {d:Option Tmp} {ty:TypeId} {pos:String} {aft:Array Edge} {g:Option (Nat×Bool)} {c:Ctx} {G:Ah} {H:List Res}
theorem Jb {f:FuncId} {cl:Operand} {ao:List Operand} {ats:Array TypeId} {args lb:List Value} {H1:List Res} {R:Value→Ah→List Res→Prop} {fn:Func} (hs:St c G (H1++H) w) (hc:ev E cl=some (.func (.func f) #[] lb.toArray))
  (ha:ao.map (ev E)=args.map some) (hfn:x.P.funcs[f]?=some fn) (hb:fn.body.isSome=true)
  (hnm : (fn.name == "runtime.NumGoroutine") = false) (h : Ba x.P f (args ++ lb) G H1 R)
  (kk:∀ v G' H' w',R v G' H'→G.le G'→St c G' (H'++H) w'→K v w'):S x ⟨d,.call { callee:=.value cl,args:=ao.toArray,argTypes:=ats },ty,pos,aft,g⟩ Q K E w:=by
 intro a hA next hn
 have hargs:=evals hA ao args ha
 refine ⟨fun _ _=>trivial,?_⟩
 rw [Oper.semAt_eq _ _ _ (fun c hc=>by cases hc)]
 have hr:(execOp a.eval ⟨d,.call { callee:=.value cl,args:=ao.toArray,argTypes:=ats },ty,pos,aft,g⟩).run x.P w=.ok (.enter f (args++lb).toArray) w:=by
  have hbn:¬ fn.body=none:=by intro h0;rw [h0] at hb;cases hb
  have hnm' : ¬ fn.name = "runtime.NumGoroutine" := by simpa using hnm
  simp [execOp,resolve,Deferred.ofValue,hA.ev hc,invoke,callFunc,hfn,hnm',hbn,hargs]
 rw [hr]
 refine ⟨fun h=>Wn,?_⟩
 have hcall:=h.call hs
 have h2:=(callsIn_wide (n:=0)).2 hcall
 have h3:=CallsIn.mono (F:=RF x.r) (n:=0-1) (R:=_) (R':=fun
   | .returned v,w''=>next (a.put d v) w''
   | .panicked chain,w''=>Uc x.N Q (.panic chain) a w''
   | .outgrown,_=>LetsOut (Uc x.N Q)) h2 (fun e w' he=>by
  obtain ⟨v,G',H',rfl,hle,hs',hR⟩:=he
  exact hn _ _ (kk v G' H' w' hR hle hs'))
 exact h3
theorem Fm {t:TypeId} (hs:St c G H w) (k:∀ b w',St c G (.obj b (.map #[] 0)::H) w'→K (.map (some b)) w'):S x ⟨d,.makeMap t none,ty,pos,aft,g⟩ Q K E w:=by
 refine Ko rfl fun a _=>⟨.map (some w.heap.size),w.alloc (.map #[] 0),?_,k _ _ (hs.alloc _ ?_ (fun k hk=>hk))⟩
 ·simp only [execOp,Option.map_none,Sem.run_bind,run_makeMap_plain,Result.andThen];simp
 ·show (w.alloc _).heap[w.heap.size]?=_
  rw [heap_alloc_new]
def Lh (k v:Value) (c:Nat):MapEntry:={ key:=k,val:=v,born:=c }
theorem iL {K:Value→Prop} {o q:Operand} {t e e':TypeId} {kd:IntKind} {n:Nat} {j:Int} {v u:Value} {xs:List Value} (i h:Nat) (hi:H[h]?=some (.row e' 1 v n xs)) (hu:x.P.underlying t=some (.slice e)) (hs:∀ w,(sizeOf e).run x.P w=.ok 1 w)
  (h1:ev E o=some v) (h2:ev E q=some (.int kd j)) (hj:j=(i:Int)) (hlt:i<n) (hx:xs[i]?=some u) (hw0:St c G H w)
  (k:∀ p,(∀ w,St c G H w→w.cell? p=some u)→K (.pointer (some p))):Y x (St c G H) ⟨d,.indexAddr t o q,ty,pos,aft,g⟩ E K:=by
 subst hj
 have hform:∃ b cap,v=.slice (some ⟨b,0,none⟩) n cap:=by
  have hr:w.ownsRow 0 e' 1 v n xs:=hw0.hold (.row e' 1 v n xs) (AaF hi)
  rcases hr.2 with ⟨_,h0⟩ | ⟨b,cap,cur,rfl,_⟩
  ·omega
  ·exact ⟨b,cap,rfl⟩
 obtain ⟨b,cap,rfl⟩:=hform
 refine Du (v:=.pointer (some ⟨b,i,none⟩)) (fun f hf w _=>?_) (k _ fun w hw=>?_)
 ·have ha:(⟨b,0,none⟩:Addr).add (i*1)=⟨b,i,none⟩:=by
   rw [Abf]
   unfold Addr.add;split
   ·rename_i h0;simp [h0]
   ·simp
  simp [execOp,hf.ev h1,hf.ev h2,Instr.indexAt,asIntOf,run_underlying hu,hs w,hlt]
  rw [← Abf i,ha,Abf]
 ·have hr:w.ownsRow 0 e' 1 (.slice (some ⟨b,0,none⟩) n cap) n xs:=hw.hold (.row e' 1 _ n xs) (AaF hi)
  rcases hr.2 with ⟨h0,_⟩ | ⟨b',cap',cur,h0,_,hh,_,_,_,htk⟩
  ·cases h0
  ·injection h0 with h1' h2' h3'
   injection h1' with h1'
   injection h1' with h1'
   subst h1'
   rw [Abf] at htk
   rw [← htk,AbJ hlt] at hx
   simpa [World.cell?,hh] using hx
theorem Dl {K:Value→Prop} {o:Operand} {t e e':TypeId} {n sz:Nat} {v:Value} {xs:List Value} (h:Nat) (hi:H[h]?=some (.row e' sz v n xs)) (hu:x.P.underlying t=some (.slice e)) (h1:ev E o=some v) (hw0:St c G H w)
  (k:K (.int .i64 (n:Int))):Y x (St c G H) ⟨d,.call { callee:=.builtin .len,args:=#[o],argTypes:=#[t] },ty,pos,aft,g⟩ E K:=by
 have hr:w.ownsRow 0 e' sz v n xs:=hw0.hold (.row e' sz v n xs) (AaF hi)
 rcases hr.2 with ⟨rfl,rfl⟩ | ⟨b,cap,cur,rfl,_⟩
 ·exact wC hu h1 k
 ·exact wC hu h1 k
theorem pO {K:Value→Prop} {o:Operand} {t:Nat} {p:Addr} {v:Value} (hA:∀ w,(isAgg t).run x.P w=.ok false w) (h:ev E o=some (.pointer (some p)))
  (hp:∀ w,St c G H w→w.cell? p=some v) (k:K v):Y x (St c G H) ⟨d,.load t o,ty,pos,aft,g⟩ E K :=
 Du (v:=v) (fun a ha w hw=>by
  have hc:=hp w hw
  simp [execOp,ha.ev h,Instr.loadAt,Instr.sureAddr,loadVar,hA w,hc]) k
end
@[reducible] def yx (J:Option Code→Env→World→Prop):Exit→Env→World→Prop
 | .normal,E,w=>J none E w
 | .ret,E,w=>J (some .ret) E w
 | .exit id,E,w=>J (some (.exit id)) E w
 | _,_,_=>False
theorem Fl.of_TX {P:Program} {G:Ah} {N l:Nat} {rec:Loop} {args:List Value} {ps:List Nat} {L:List (Nat×Value)} {H:List Res} {R:Value→Ah→List Res→Prop}
  (hA:Ag N ⟨[],L⟩ { tmps:=rec.tmps,defers:=[] }) (hps:rec.params=ps.toArray) (hn:args.length=ps.length) (hN:∀ p∈ps,p<N) (hr:rec.state=.ready)
  (h:∀ w0,St ⟨w0,G,Bj (.obj l (.loop rec)::H)⟩ G (.obj l (.loop rec)::H) w0 →
   T ⟨P,N,some l⟩ rec.assign (nm fun E1 w1=>St ⟨w0,G,Bj (.obj l (.loop rec)::H)⟩ G (.obj l (.loop rec)::H) w1 ∧
    ∀ w2,St ⟨w0,G,Bj (.obj l (.loop rec)::H)⟩ G (.obj l (.loop { rec with state:=.busy })::H) w2 →
     T ⟨P,N,some l⟩ rec.body (yx fun j _ w3=>∃ G3 H3,St ⟨w0,G,Bj (.obj l (.loop rec)::H)⟩ G3 (.obj l (.loop { rec with state:=.busy })::H3) w3 ∧
      R (.bool j.isNone) G3 (.obj l (.loop { rec with state:=if j.isNone then .ready else .done,pending:=j })::H3)) E1 w2)
    ⟨[],(ps.zip args).reverse++L⟩ w0):Fl P l args G (.obj l (.loop rec)::H) R:=by
 intro w hs
 have hl:w.heap[l]?=some (.loop rec):=hs.hold (.obj l (.loop rec)) Di
 have hy:=run_yield (P:=P) (args:=args.toArray) hl (by rw [hps];simpa using hn)
 rw [hps] at hy
 refine ⟨_,_,_,_,hy,?_⟩
 refine roundIn_of_wpIn (by trivial) ?_
 have hAp:Ag N ⟨[],(ps.zip args).reverse++L⟩ { tmps:=(ps.zip args).foldl (fun t (p:Nat×Value)=>t.setIfInBounds p.1 p.2) rec.tmps,defers:=[] } :=
  Ag.params (ps.zip args) hA (fun p hp=>hN _ (List.of_mem_zip hp).1)
 have h1:=h w hs _ hAp
 have e1:(ps.toArray.zip args.toArray).foldl (fun tmps x=>match x with | (t,a)=>tmps.setIfInBounds t a) rec.tmps=(ps.zip args).foldl (fun t (p:Nat×Value)=>t.setIfInBounds p.1 p.2) rec.tmps:=by
  rw [List.zip_toArray,List.foldl_toArray]
 rw [e1]
 refine wpIn_mono h1 ?_
 rintro e a1 w1 ⟨E1,hE1,hq⟩
 cases e<;>try exact hq.elim
 obtain ⟨hs1,hb⟩:=hq
 have hl1:w1.heap[l]?=some (.loop rec):=hs1.hold (.obj l (.loop rec)) Di
 have hlt1:=Dc hl1
 refine ⟨_,run_beginRound hl1 hr,?_⟩
 have hs2:St ⟨w,G,Bj (.obj l (.loop rec)::H)⟩ G (.obj l (.loop { rec with state:=.busy })::H) (w1.putObj l (.loop { rec with state:=.busy })) :=
  hs1.write rfl rfl rfl Di (fun k _ hk=>World.putObj_heap_other hk) (World.putObj_heap_same hlt1) (fun k hk=>.inl hk)
 refine wpIn_mono (hb _ hs2 a1 hE1) ?_
 have fin:∀ (j:Option Code) w3,(∃ G3 H3,St ⟨w,G,Bj (.obj l (.loop rec)::H)⟩ G3 (.obj l (.loop { rec with state:=.busy })::H3) w3 ∧
      R (.bool j.isNone) G3 (.obj l (.loop { rec with state:=if j.isNone then .ready else .done,pending:=j })::H3)) →
   ∃ v w',(Instr.endRound l j).run P w3=.ok v w'∧∃ v' G' H',Ending.returned v=.returned v'∧St ⟨w,G,Bj (.obj l (.loop rec)::H)⟩ G' H' w'∧R v' G' H':=by
  rintro j w3 ⟨G3,H3,hs3,hR⟩
  have hl3:w3.heap[l]?=some (.loop { rec with state:=.busy }):=hs3.hold (.obj l (.loop { rec with state:=.busy })) Di
  refine ⟨_,_,run_endRound j hl3,.bool j.isNone,G3,_,rfl,?_,hR⟩
  exact hs3.write rfl rfl rfl Di (fun k _ hk=>World.putObj_heap_other hk) (World.putObj_heap_same (Dc hl3)) (fun k hk=>.inl hk)
 rintro e a3 w3 ⟨E3,hE3,hq⟩
 cases e with
 | normal=>exact fin none w3 hq
 | ret=>exact fin (some .ret) w3 hq
 | exit id=>exact fin (some (.exit id)) w3 hq
 | _=>exact hq.elim
theorem Rz {P:Program} {c:Ctx} {G:Ah} {H:List Res} {w:World} {N gf:Nat} {E:Env} {g:Operand} {ps:Array Tmp} {assign body:Code} {Q:Exit→Env→World→Prop} {lb:List Value} {fn:Func} {H1:List Res} {R:Option Code→Ah→List Res→Prop}
  (hs : St c G (H1 ++ H) w) (hg : ev E g = some (.func (.func gf) #[] lb.toArray)) (hfn : P.funcs[gf]? = some fn) (hb : fn.body.isSome = true) (hnm : (fn.name == "runtime.NumGoroutine") = false)
  (hit:∀ (l D:Nat) (rec:Loop),rec.params=ps→rec.assign=assign→rec.body=body→rec.state=.ready→rec.pending=none→Ag N ⟨[],E.l⟩ { tmps:=rec.tmps,defers:=[] } →
   Ba P gf (.func (.yield l) #[] #[]::lb) G (.obj l (.loop rec)::.obj D (.deferred (some []))::H1) fun _ G' H'=>∃ H2 j st,H'=.obj l (.loop { rec with state:=st,pending:=j })::.obj D (.deferred (some []))::H2∧st≠.busy∧R j G' H2)
  (kk:∀ (l D:Nat) o j G' H2 w',R j G' H2→G.le G'→St c G' (.obj D (.deferred (some []))::.obj l o::(H2++H)) w' →
   match j with
   | none=>Q .normal ⟨{ target:=.collected D,args:=#[] }::E.d,E.l⟩ w'
   | some c=>T ⟨P,N,none⟩ c Q ⟨{ target:=.collected D,args:=#[] }::E.d,E.l⟩ w') :
  T ⟨P,N,none⟩ (.rangeFunc g ps assign body) Q E w:=by
 intro a hA
 refine wpIn_rangeFunc fun f _=>?_
 obtain ⟨rec,hrec⟩:∃ rec:Loop,rec={ state:=.ready,pending:=none,fn:=f,tmps:=a.tmps,params:=ps,assign,body,defers:=w.heap.size }:=⟨_,rfl⟩
 have hs1:St c G (.obj w.heap.size (.deferred (some []))::(H1++H)) (w.alloc (.deferred (some []))):=hs.alloc _ (World.alloc_heap_new w _) (fun k hk=>hk)
 have hs2:St c G (.obj (w.heap.size+1) (.loop rec)::.obj w.heap.size (.deferred (some []))::(H1++H)) ((w.alloc (.deferred (some []))).alloc (.loop rec)):=by
  have h0:(w.alloc (.deferred (some []))).heap.size=w.heap.size+1:=by simp
  refine hs1.alloc _ ?_ (fun k hk=>by rw [h0];exact hk)
  show ((w.alloc (.deferred (some []))).alloc (.loop rec)).heap[w.heap.size+1]?=_
  rw [← h0];exact World.alloc_heap_new _ _
 have hcall:=(hit (w.heap.size+1) w.heap.size rec Z66 Z66 Z66 Z66 Z66 (by rw [hrec];exact ⟨hA.size,rfl,hA.look⟩)).call (H:=H) hs2
 have hbn:¬ fn.body=none:=by intro h0;rw [h0] at hb;cases hb
 have hnm' : ¬ fn.name = "runtime.NumGoroutine" := by simpa using hnm
 obtain ⟨W1,hW1⟩:∃ W1,W1=(w.alloc (.deferred (some []))).alloc (.loop rec):=⟨_,rfl⟩
 rw [← hW1] at hcall
 refine ⟨w.heap.size+1,[{ target:=.collected w.heap.size,args:=#[] }],W1,{ target:=.fn (.func gf) lb.toArray,args:=#[.func (.yield (w.heap.size+1)) #[] #[]] },W1,gf,
  #[.func (.yield (w.heap.size+1)) #[] #[]]++lb.toArray,W1,by rw [hW1,hrec];exact run_enterLoop_outer _ _ _ _ _,?_,fun _ _=>trivial,?_,(fun h=>by cases h),?_⟩
 ·simp only [resolve,hA.ev hg]
  simp [go_sem]
 ·simp [invoke,callFunc,hfn,hnm',hbn,go_sem]
 ·have h2:=(callsIn_wide (n:=0)).2 hcall
  have eA:(#[.func (.yield (w.heap.size+1)) #[] #[]]++lb.toArray:Array Value)=(.func (.yield (w.heap.size+1)) #[] #[]::lb).toArray:=by simp
  rw [eA]
  refine CallsIn.mono (F:=RF none) (n:=0-1) h2 ?_
  rintro e w' ⟨v,G',H',rfl,hle,hs',H2,j,st,rfl,hst,hR⟩
  have hl:w'.heap[w.heap.size+1]?=some (.loop { rec with state:=st,pending:=j }):=hs'.hold (.obj (w.heap.size+1) (.loop { rec with state:=st,pending:=j })) Di
  refine ⟨j,w'.putObj (w.heap.size+1) (.loop { rec with state:=.exhausted,pending:=j }),by rw [run_endLoop (P:=P) hl hst],?_⟩
  have hs'':St c G' (.obj (w.heap.size+1) (.loop { rec with state:=st,pending:=j })::(.obj w.heap.size (.deferred (some []))::H2++H)) w':=hs'
  have hs4:St c G' (.obj (w.heap.size+1) (.loop { rec with state:=.exhausted,pending:=j })::(.obj w.heap.size (.deferred (some []))::H2++H)) (w'.putObj (w.heap.size+1) (.loop { rec with state:=.exhausted,pending:=j })) :=
   hs''.write rfl rfl rfl Di (fun k _ hk=>World.putObj_heap_other hk) (World.putObj_heap_same (Dc hl)) (fun k hk=>.inl hk)
  have hs5:=hs4.front 1 rfl rfl
  have hAg:Ag N ⟨{ target:=.collected w.heap.size,args:=#[] }::E.d,E.l⟩ { a with defers:=[{ target:=.collected w.heap.size,args:=#[] }]++a.defers }:=⟨hA.size,by simp [hA.defs],hA.look⟩
  have hk:=kk (w.heap.size+1) w.heap.size _ j G' H2 _ hR hle (by simpa using hs5)
  cases j with
  | none=>exact ⟨_,hAg,hk⟩
  | some c=>exact hk _ hAg
abbrev W64:Nat:=18446744073709551616
def Bb (n:Nat):Value:=.int .u64 (n:Int)
def Dn (a b:Nat):Nat:=a % W64 &&& b % W64
def fA (a b:Nat):Nat:=a % W64 ||| b % W64
def Kr (a b:Nat):Nat:=a % W64 ^^^ b % W64
def Nv (a b:Nat):Nat:=(a+b) % W64
def Im (a b:Nat):Nat:=(a+(W64-b % W64)) % W64
def iM (a b:Nat):Nat:=(a*b) % W64
theorem Jc (a:Nat):(BitVec.ofInt 64 (a:Int)).toNat=a % W64:=by
 rw [BitVec.toNat_ofInt];norm_cast
theorem Na (n:Nat):IntKind.u64.wrap (n:Int)=((n % W64:Nat):Int):=by rw [IntKind.wrap_u64];simp [W64]
theorem Gv (a b:Nat):Dn a b<W64:=Nat.and_lt_two_pow (n:=64) _ (Abz _ Lk)
theorem Pn (a b:Nat):fA a b<W64:=Nat.or_lt_two_pow (n:=64) (Abz _ Lk) (Abz _ Lk)
theorem Sf (a b:Nat):Kr a b<W64:=Nat.xor_lt_two_pow (n:=64) (Abz _ Lk) (Abz _ Lk)
theorem wH (a b:Nat):Rv .and .u64 (a:Int) (b:Int)=((Dn a b:Nat):Int):=by
 show IntKind.u64.wrap ((BitVec.ofInt 64 (a:Int) &&& BitVec.ofInt 64 (b:Int)).toNat:Int)=_
 rw [BitVec.toNat_and,Jc,Jc,Na]
 exact congrArg Nat.cast (AaT (Gv a b))
theorem bits_or (a b:Nat):Rv .or .u64 (a:Int) (b:Int)=((fA a b:Nat):Int):=by
 show IntKind.u64.wrap ((BitVec.ofInt 64 (a:Int) ||| BitVec.ofInt 64 (b:Int)).toNat:Int)=_
 rw [BitVec.toNat_or,Jc,Jc,Na]
 exact congrArg Nat.cast (AaT (Pn a b))
theorem wI (a b:Nat):Rv .xor .u64 (a:Int) (b:Int)=((Kr a b:Nat):Int):=by
 show IntKind.u64.wrap ((BitVec.ofInt 64 (a:Int) ^^^ BitVec.ofInt 64 (b:Int)).toNat:Int)=_
 rw [BitVec.toNat_xor,Jc,Jc,Na]
 exact congrArg Nat.cast (AaT (Sf a b))
theorem wJ (a b:Nat):IntKind.u64.wrap ((a:Int)+(b:Int))=((Nv a b:Nat):Int):=by rw [← Int.natCast_add,Na];rfl
theorem wK (a b:Nat):IntKind.u64.wrap ((a:Int)*(b:Int))=((iM a b:Nat):Int):=by rw [← Int.natCast_mul,Na];rfl
theorem iN (a b:Nat):IntKind.u64.wrap ((a:Int)-(b:Int))=((Im a b:Nat):Int):=by
 rw [IntKind.wrap_u64];unfold Im W64;omega
theorem shl_one (k:Nat) (hk:k<64):IntKind.u64.wrap (1*2 ^ (min ((k:Int)).toNat IntKind.u64.bits))=((2 ^ k:Nat):Int):=by
 have h1:min ((k:Int)).toNat IntKind.u64.bits=k:=by show min ((k:Int)).toNat 64=k;omega
 rw [h1,Int.one_mul,show ((2:Int) ^ k)=((2 ^ k:Nat):Int) by push_cast;rfl,Na,AaT]
 exact Nat.pow_lt_pow_right Lk hk
theorem shr_pow (a k:Nat) (hk:k<64):(a:Int).fdiv (2 ^ (min ((k:Int)).toNat IntKind.u64.bits))=((a / 2 ^ k:Nat):Int):=by
 have h1:min ((k:Int)).toNat IntKind.u64.bits=k:=by show min ((k:Int)).toNat 64=k;omega
 rw [h1,Int.fdiv_eq_ediv_of_nonneg _ (Int.pow_nonneg Lk)]
 push_cast;rfl
section
variable {x:Cx} {W:World→Prop} {E:Env} {K:Value→Prop} {d:Option Tmp} {ty:TypeId} {pos:String} {aft:Array Edge} {g:Option (Nat×Bool)} {c:Ctx} {G:Ah} {H:List Res} {xt yt:TypeId} {o p:Operand} {a b:Nat}
theorem Lp (h1:ev E o=some (Bb a)) (h2:ev E p=some (Bb b)) (k:K (Bb (Dn a b))):Y x W ⟨d,.binOp .and xt o p yt,ty,pos,aft,g⟩ E K:=eZ h1 h2 Di (wH a b) k
theorem mR (h1:ev E o=some (Bb a)) (h2:ev E p=some (Bb b)) (k:K (Bb (fA a b))):Y x W ⟨d,.binOp .or xt o p yt,ty,pos,aft,g⟩ E K:=eZ h1 h2 Di (bits_or a b) k
theorem Po (h1:ev E o=some (Bb a)) (h2:ev E p=some (Bb b)) (k:K (Bb (Nv a b))):Y x W ⟨d,.binOp .add xt o p yt,ty,pos,aft,g⟩ E K:=mO h1 h2 (by rw [wJ];exact k)
theorem Y_sub64 (h1:ev E o=some (Bb a)) (h2:ev E p=some (Bb b)) (k:K (Bb (Im a b))):Y x W ⟨d,.binOp .sub xt o p yt,ty,pos,aft,g⟩ E K:=mP h1 h2 (by rw [iN];exact k)
theorem Y_mul64 (h1:ev E o=some (Bb a)) (h2:ev E p=some (Bb b)) (k:K (Bb (iM a b))):Y x W ⟨d,.binOp .mul xt o p yt,ty,pos,aft,g⟩ E K:=wB h1 h2 (by rw [wK];exact k)
theorem Nb {kd:IntKind} (k':Nat) (hk':k'<64) (h1:ev E o=some (Bb a)) (h2:ev E p=some (.int kd (k':Int))) (k:K (Bb (a / 2 ^ k'))):Y x W ⟨d,.binOp .shr xt o p yt,ty,pos,aft,g⟩ E K :=
 Mh h1 h2 Bm (shr_pow a k' hk') k
theorem wL {kd:IntKind} (k':Nat) (hk':k'<64) (h1:ev E o=some (Bb 1)) (h2:ev E p=some (.int kd (k':Int))) (k:K (Bb (2 ^ k'))):Y x W ⟨d,.binOp .shl xt o p yt,ty,pos,aft,g⟩ E K :=
 Y_shl h1 h2 Bm (shl_one k' hk') k
theorem tH (h:ev E o=some (Bb a)) (k:K (Bb (Kr 18446744073709551615 a))):Y x W ⟨d,.unOp .xor xt o,ty,pos,aft,g⟩ E K :=
 Du (v:=Bb (Kr 18446744073709551615 a)) (fun f hf w _=>by
  have:=wI 18446744073709551615 a
  simp only [Rv] at this
  simp [execOp,hf.ev h,Bb,Op.unary,Op.intBits,IntKind.signed,IntKind.max,IntKind.bits] at this ⊢
  exact this) k
theorem Y_neg64 (h:ev E o=some (Bb a)) (k:K (Bb (Im 0 a))):Y x W ⟨d,.unOp .neg xt o,ty,pos,aft,g⟩ E K :=
 Du (v:=Bb (Im 0 a)) (fun f hf w _=>by
  have:=iN 0 a
  simp [execOp,hf.ev h,Bb,Op.unary,Op.intArith] at this ⊢
  exact this) k
theorem Sh {t e:TypeId} {n:Nat} {kd:IntKind} {j:Int} {vs:List Value} {v:Value} (i:Nat) (hu:x.P.underlying t=some (.array n e)) (hA:∀ w,(isAgg e).run x.P w=.ok false w) (hS:∀ w,(sizeOf e).run x.P w=.ok 1 w)
  (h1:ev E o=some (.agg vs.toArray)) (h2:ev E p=some (.int kd j)) (hj:j=(i:Int)) (hlt:i<n) (hv:vs[i]?=some v) (k:K v):Y x W ⟨d,.index t o p,ty,pos,aft,g⟩ E K:=by
 subst hj
 refine Du (v:=v) (fun f hf w _=>?_) k
 simp [execOp,hf.ev h1,hf.ev h2,Instr.index,asIntOf,run_underlying hu,hS w,hlt,part,hA w,hv]
theorem Y_ldW {t e b' n:Nat} {cs:List Value} (i:Nat) (hA:∀ w,(isAgg t).run x.P w=.ok true w) (hS:∀ w,(sizeOf t).run x.P w=.ok n w) (h:ev E o=some (.pointer (some ⟨b',0,none⟩)))
  (hi:H[i]?=some (.blk b' e cs)) (hn:cs.length=n) (k:K (.agg cs.toArray)):Y x (St c G H) ⟨d,.load t o,ty,pos,aft,g⟩ E K:=pI i hA hS h hi (by rw [List.drop_zero];exact Aab Bm) hn k
theorem Bp {t e:TypeId} {kd:IntKind} {n b':Nat} {j:Int} (i:Nat) (hu:x.P.underlying t=some (.array n e)) (hs:∀ w,(sizeOf e).run x.P w=.ok 1 w)
  (h1:ev E o=some (.pointer (some ⟨b',0,none⟩))) (h2:ev E p=some (.int kd j)) (hj:j=(i:Int)) (hlt:i<n)
  (k:K (.pointer (some ⟨b',i,none⟩))):Y x W ⟨d,.indexAddr t o p,ty,pos,aft,g⟩ E K:=Jh i hu hs h1 h2 hj hlt Bm k
end
theorem Dk (l:List Nat):(l.map Bb).all (·.oneCell')=true:=by
 rw [AbD];intro v hv;obtain ⟨n,_,rfl⟩:=Aaf.1 hv;rfl
def Ig (c:List Nat):Value:=.agg (c.map Bb).toArray
section
variable {x:Cx} {Q:Exit→Env→World→Prop} {E:Env} {K:Value→World→Prop} {w:World} {d:Option Tmp} {ty:TypeId} {pos:String} {aft:Array Edge} {g:Option (Nat×Bool)} {c:Ctx} {G:Ah} {H:List Res}
theorem pP {o p:Operand} {t b e n:Nat} {vs cs:List Value} (hs:St c G (.blk b e cs::H) w) (hS:∀ w,(sizeOf t).run x.P w=.ok n w) (h1:ev E o=some (.pointer (some ⟨b,0,none⟩))) (h2:ev E p=some (.agg vs.toArray))
  (hn:vs.length=n) (hc:cs.length=n) (hone:vs.all (·.oneCell')=true) (k:∀ w',St c G (.blk b e vs::H) w'→K undef w'):S x ⟨d,.store t o p,ty,pos,aft,g⟩ Q K E w :=
 Lm hs hS h1 h2 hn hone Bm (by simp [← hc]) k
end
def Bi {α:Type} (k:Nat) (R:Ah→List Value→α→Prop) (G:Ah) (v:Value) (l:List α):Prop :=
 ∃ cs:List (List Value),Sl G v k l.length cs.flatten∧Cw (R G) cs l∧∀ c∈cs,c.length=k
theorem Bi.mono {α:Type} {k:Nat} {R:Ah→List Value→α→Prop} {G G':Ah} (hR:∀ c a,R G c a→R G' c a) (h:G.le G') {v:Value} {l:List α} (hl:Bi k R G v l):Bi k R G' v l:=by
 obtain ⟨cs,h1,h2,h3⟩:=hl
 exact ⟨cs,h1.mono h,Cw.mono (fun a b=>hR a b) h2,h3⟩
theorem Bi.slice {α:Type} {k:Nat} {R:Ah→List Value→α→Prop} {G:Ah} {v:Value} {l:List α} (hl:Bi k R G v l):∃ A c,v=.slice A l.length c:=by
 obtain ⟨_,⟨A,c,h,_⟩,_⟩:=hl
 exact ⟨A,c,h⟩
theorem Bi.nil {α:Type} {k:Nat} {R:Ah→List Value→α→Prop} {G:Ah}:Bi k R G (.slice none 0 0) ([]:List α):=⟨[],Sl.nil G k,trivial,fun _ h=>by cases h⟩
theorem Qq {k:Nat}:∀ (cs:List (List Value)) (i:Nat) (c:List Value),(∀ c∈cs,c.length=k)→cs[i]?=some c→(cs.flatten.drop (i*k)).take k=c
 | [],i,c,_,h=>by simp at h
 | d::cs,0,c,hk,h=>by
  obtain rfl:d=c:=by simpa using h
  have hd:=hk d Di
  rw [Nat.zero_mul,List.drop_zero,AbW,List.take_append_of_le_length Bm,Aab Bm]
 | d::cs,i+1,c,hk,h=>by
  have hd:=hk d Di
  have ih:=Qq cs i c (fun c hc=>hk c (by simp [hc])) iB
  rw [AbW,AcN,AcE,List.drop_append,AbU Bm,AbA,hd,Nat.add_sub_cancel]
  exact ih
section
variable {x:Cx} {W:World→Prop} {E:Env} {K:Value→Prop} {d:Option Tmp} {ty:TypeId} {pos:String} {aft:Array Edge} {g:Option (Nat×Bool)}
theorem Ca {α:Type} {k:Nat} {R:Ah→List Value→α→Prop} {G:Ah} {v:Value} {l:List α} {o q:Operand} {t e:TypeId} {kd:IntKind} {j:Int} (hl:Bi k R G v l) (i:Nat) (hu:x.P.underlying t=some (.slice e)) (hs:∀ w,(sizeOf e).run x.P w=.ok k w)
  (h1:ev E o=some v) (h2:ev E q=some (.int kd j)) (hj:j=(i:Int)) (hlt:i<l.length)
  (kk:∀ p c,(∀ (j:Nat) (u:Value),c[j]?=some u→Fc G (p.add j)=some u)→c.length=k→R G c l[i]→K (.pointer (some p))):Y x W ⟨d,.indexAddr t o q,ty,pos,aft,g⟩ E K:=by
 obtain ⟨cs,hS,h2a,hk⟩:=hl
 obtain ⟨c,hc,hR⟩:=Cw.get i h2a hlt
 refine Y_idx i hu hs hS h1 h2 hj hlt fun p hp=>kk p c ?_ (hk c (AaF hc)) hR
 intro j u hu
 have hl:=hk c (AaF hc)
 have hjk:j<k:=by
  rcases AaM j k with h' | h'
  ·exact h'
  ·rw [AaL Bm] at hu;cases hu
 rw [← Qq cs i c hk hc,AbJ hjk,List.getElem?_drop] at hu
 exact hp j u hu
end
theorem Fs {x:Cx} {Q:Exit→Env→World→Prop} {w:World} (d:Nat) {ops:Array Oper} {t:Tmp} {op:Op} {ty:TypeId} {pos:String} {aft:Array Edge} {l:List Oper} {D:List Deferred} {L:List (Nat×Value)} {j:Nat} {b:Bool} (hj:(ops[j]?).bind (·.dst)=some d) (hb:Em L d=some undef)
  (h:O x ops Q l ⟨D,(t,undef)::L⟩ w):O x ops Q (⟨some t,op,ty,pos,aft,some (j,b)⟩::l) ⟨D,L⟩ w:=by
 intro hd a ha
 have hw:Region.wanted (⟨some t,op,ty,pos,aft,some (j,b)⟩:Oper) (yielded ops a.tmps)=false:=by
  simp only [Region.wanted,yielded,hj,AcT,ha.look d _ hb]
  cases b<;>rfl
 refine wpListIn_step fun K hK=>?_
 rw [hw]
 simp only [AbK,if_false]
 exact ⟨fun _ _=>trivial,hK _ _ (h (fun o' ho'=>hd o' (AaG _ ho')) _ (ha.put (some t) _ (hd _ AaK)))⟩
theorem St.rowForm {c:Ctx} {G:Ah} {H:List Res} {w:World} {e k n:Nat} {v:Value} {xs:List Value} (i:Nat) (hs:St c G H w) (hi:H[i]?=some (.row e k v n xs)) (hn:0<n):∃ b cap,v=.slice (some ⟨b,0,none⟩) n cap∧n≤cap:=by
 have hr:=hs.hold _ (AaF hi)
 rcases hr.2 with ⟨_,h0⟩ | ⟨b,cap,cur,rfl,_,_,h1,_⟩
 ·omega
 ·exact ⟨b,cap,rfl,h1⟩
section
variable {x:Cx} {W:World→Prop} {E:Env} {K:Value→Prop} {d:Option Tmp} {ty:TypeId} {pos:String} {aft:Array Edge} {g:Option (Nat×Bool)}
end
section
variable {x:Cx} {Q:Exit→Env→World→Prop} {E:Env} {K:Value→World→Prop} {w:World} {d:Option Tmp} {ty:TypeId} {pos:String} {aft:Array Edge} {g:Option (Nat×Bool)} {c:Ctx} {G:Ah} {H:List Res}
end
section
variable {x:Cx} {E:Env} {d:Option Tmp} {ty:TypeId} {pos:String} {aft:Array Edge} {g:Option (Nat×Bool)}
theorem Si {W:World→Prop} {K:Value→Prop} {o q:Operand} {t e:TypeId} {kd:IntKind} {n cap b s m:Nat} {j:Int} (i:Nat) (hu:x.P.underlying t=some (.slice e)) (hs:∀ w,(sizeOf e).run x.P w=.ok s w)
  (h1:ev E o=some (.slice (some ⟨b,0,none⟩) n cap)) (h2:ev E q=some (.int kd j)) (hj:j=(i:Int)) (hlt:i<n) (hm:i*s=m)
  (k:K (.pointer (some ⟨b,m,none⟩))):Y x W ⟨d,.indexAddr t o q,ty,pos,aft,g⟩ E K:=by
 subst hj hm
 refine Du (v:=.pointer (some ⟨b,i*s,none⟩)) (fun f hf w _=>?_) k
 have ha:(⟨b,0,none⟩:Addr).add (i*s)=⟨b,i*s,none⟩:=by
  unfold Addr.add;split
  ·rename_i h0;simp [h0]
  ·simp
 simp [execOp,hf.ev h1,hf.ev h2,Instr.indexAt,asIntOf,run_underlying hu,hs w,hlt,ha]
theorem S_makeB {Q:Exit→Env→World→Prop} {K:Value→World→Prop} {w:World} {c:Ctx} {G:Ah} {H:List Res} {o p:Operand} {t e:TypeId} {kd kd':IntKind} {u:Value} {k bytes n:Nat} {cs:List Value} (hs:St c G H w) (ht:x.P.underlying t=some (.slice e)) (hi:TI x.P e u k bytes)
  (ho:ev E o=some (.int kd (n:Int))) (hp:ev E p=some (.int kd' (n:Int))) (hb:bytes*n≤281474976710656) (hm:n≤281474976710656) (hc:(madeCells u.cells (n*k)).toList=cs)
  (kk:∀ b w',St c G (.blk b e cs::H) w'→K (.slice (some ⟨b,0,none⟩) n n) w'):S x ⟨d,.makeSlice t o p,ty,pos,aft,g⟩ Q K E w:=by
 obtain ⟨i,hi,hz,hik,hib⟩:=hi
 have hr:=run_make (P:=x.P) w t e i u ht hi hz kd kd' (n:Int) (n:Int) Bm Bm (by
  rw [hib]
  have h:((bytes*n:Nat):Int)≤281474976710656:=by omega
  rwa [Int.natCast_mul] at h) Bm
 simp only [AbE,hik] at hr
 have hblk:Res.holds (w.alloc (.cells (madeCells u.cells (n*k)) e)) (.blk w.heap.size e cs):=by
  show (w.alloc _).heap[w.heap.size]?=_
  rw [heap_alloc_new,← hc]
 refine Ko rfl fun a ha=>⟨_,_,?_,kk w.heap.size _ (hs.alloc _ hblk (fun j hj=>hj))⟩
 simp only [execOp,ha.ev ho,ha.ev hp]
 simp [hr]
end
section
variable {x:Cx} {E:Env} {d:Option Tmp} {ty:TypeId} {pos:String} {aft:Array Edge} {g:Option (Nat×Bool)}
theorem Dr {W:World→Prop} {K:Value→Prop} {t e n k:Nat} {ps:List (Nat×Operand)} {z:Value} {zs cs:List Value} {vs:List (Nat×Value)} (hu:x.P.underlying t=some (.array n e)) (hs:∀ w,(sizeOf e).run x.P w=.ok k w) (hz:∀ w,(zeroValue t).run x.P w=.ok z w) (hzs:z.cells.toList=zs)
  (hv:evs E ps=some vs) (hc:Gd (fun i=>some (i*k,k)) zs vs=some cs) (kk:K (.agg cs.toArray)):Y x W ⟨d,.build t ps.toArray,ty,pos,aft,g⟩ E K:=by
 subst hzs
 refine Du (v:=.agg cs.toArray) (fun a ha w _=>?_) kk
 have hv':=Ol ha hv
 have hf:=Mj hc
 simp only [Array.toArray_toList] at hf
 simp only [execOp,Instr.build,Sem.run_bind,hz w,Result.andThen_ok,run_underlying hu w,hs w]
 simp only [List.map_toArray,hv']
 rw [hf]
 simp
end
theorem Bi.ofSl {α:Type} {k n:Nat} {R:Ah→List Value→α→Prop} {G:Ah} {v:Value} {xs:List Value} {cs:List (List Value)} {l:List α} (h:Sl G v k n xs) (hx:xs=cs.flatten) (hn:n=l.length) (h2:Cw (R G) cs l) (h3:∀ c∈cs,c.length=k):Bi k R G v l:=by
 subst hx hn;exact ⟨cs,h,h2,h3⟩
open Classical in
theorem Ba.lend {P:Program} {f:FuncId} {args:List Value} {G:Ah} {e k n:Nat} {v:Value} {xs:List Value} {ρ:Value→Prop} (h:∀ G1,G.le G1→Sl G1 v k n xs→Ba P f args G1 [] fun r _ H'=>H'=[]∧ρ r) :
  Ba P f args G [.row e k v n xs] fun r _ H'=>H'=[.row e k v n xs]∧ρ r:=by
 intro w hw
 have hh:Res.holds w (.row e k v n xs):=hw.hold (.row e k v n xs) Di
 have hoff:=hw.off (.row e k v n xs) Di
 obtain ⟨G1,hG1⟩:∃ G1:Ah,G1=fun j=>if (Res.row e k v n xs).foot j then w.heap[j]? else G j:=⟨_,rfl⟩
 have hle:G.le G1:=fun j o hj=>by
  have:¬ (Res.row e k v n xs).foot j:=fun hf=>by
   have:=(hoff j hf).1
   rw [hj] at this;cases this
  rw [hG1];simpa [this] using hj
 have hSl:Sl G1 v k n xs:=Sl.of_row hh fun b hb=>by
  rw [hG1]
  have:(Res.row e k v n xs).foot b:=hb
  simp [this]
 have hgh:∀ j o,G1 j=some o→w.heap[j]?=some o:=fun j o hj=>by
  rw [hG1] at hj
  by_cases hf:(Res.row e k v n xs).foot j
  ·simpa [hf] using hj
  ·simp [hf] at hj;exact hw.ghost j o hj
 have h1:St ⟨w,G1,Bj []⟩ G1 [] w:=⟨rfl,rfl,rfl,AaR _,fun _ _ _=>rfl,gLr _,fun _ _ hj=>.inl hj,hgh,fun _ hr=>(by cases hr),fun _ hr=>(by cases hr),List.Pairwise.nil,AaR _⟩
 refine (h G1 hle hSl w h1).mono ?_
 rintro ex w' ⟨r,G',H',rfl,h',rfl,hρ⟩
 have hold:∀ j,j<w.heap.size→w'.heap[j]?=w.heap[j]?:=fun j hj=>h'.old j hj (Gb j)
 refine ⟨r,fun j=>if (Res.row e k v n xs).foot j then none else G' j,[.row e k v n xs],rfl,?_,rfl,hρ⟩
 refine ⟨h'.os,h'.tape,h'.output,h'.size,fun j hj _=>hold j hj,fun j o hj=>?_,fun j o hj=>?_,fun j o hj=>?_,fun s hs=>?_,fun s hs j hj=>?_,hw.apart,h'.drn⟩
 ·replace hj:G j=some o:=hj
  have hf:¬ (Res.row e k v n xs).foot j:=fun hf=>by
   have:=(hoff j hf).1
   rw [hj] at this;cases this
  simp only [hf,if_false]
  exact h'.le j o (hle j o hj)
 ·by_cases hf:(Res.row e k v n xs).foot j
  ·simp [hf] at hj
  ·simp only [hf,if_false] at hj
   rcases h'.new j o hj with h2 | h2
   ·rw [hG1] at h2;simp only [hf,if_false] at h2;exact .inl h2
   ·exact .inr h2
 ·by_cases hf:(Res.row e k v n xs).foot j
  ·simp [hf] at hj
  ·simp only [hf,if_false] at hj;exact h'.ghost j o hj
 ·obtain rfl:s=.row e k v n xs:=by simpa using hs
  exact Res.keep hh fun j hj=>hold j (Res.lt hh hj)
 ·obtain rfl:s=.row e k v n xs:=by simpa using hs
  exact ⟨by simp [hj],(hoff j hj).2⟩
def U (x:Cx) (c:Code) (Q:Exit→Env→World→Prop):Nat→Env→World→Prop
 | 0,_,_=>False
 | n+1,E,w=>T x c (sq (fun E w=>∃ L,Jq L E.l∧U x c Q n ⟨E.d,L⟩ w) Q) E w
theorem Yz {x:Cx} {c:Code} {Q:Exit→Env→World→Prop} {n:Nat} {E:Env} {w:World} (h:T x c (sq (fun E w=>∃ L,Jq L E.l∧U x c Q n ⟨E.d,L⟩ w) Q) E w):U x c Q (n+1) E w:=h
theorem fB {x:Cx} {c:Code} {Q:Exit→Env→World→Prop} (n:Nat) {D:List Deferred} {M L:List (Nat×Value)} {w:World} (hL:Jq L M) (h:U x c Q n ⟨D,L⟩ w):T x (.loop c) Q ⟨D,M⟩ w:=by
 refine Ud (U x c Q) hL h fun n E w hI=>?_
 cases n with
 | zero=>exact hI.elim
 | succ n =>
  refine mL hI fun e E' w' hq=>?_
  cases e with
  | normal =>
   obtain ⟨L,hs,hU⟩:=hq
   exact ⟨n,Nat.lt_succ_self n,L,hs,hU⟩
  | _=>exact hq
end Go.Ex
namespace Go.Ex
open Go Go.RowKit Go.ChangeShapes Go.WideShapes Go.ChangeAt
def whole (W:World):Ah:=fun k=>W.heap[k]?
theorem St.whole (W:World):St ⟨W,whole W,Bj []⟩ (whole W) [] W :=
 ⟨rfl,rfl,rfl,AaR _,fun _ _ _=>rfl,gLr _,fun _ _ h=>.inl h,fun _ _ h=>h,(fun _ h=>by cases h),(fun _ h=>by cases h),List.Pairwise.nil,AaR _⟩
theorem gcell_whole (W:World) (a:Addr):Fc (whole W) a=W.cell? a:=by
 unfold Fc Ex.whole World.cell?
 cases W.heap[a.block]? with
 | none=>rfl
 | some o=>cases o<;>rfl
theorem law_calls {P:Program} {f:FuncId} {args:List Value} {W:World} (h:Ba P f args (Ex.whole W) [] fun r _ H'=>H'=[]∧r=.bool true) :
  Calls P f args.toArray W fun e W'=>e=.returned (.bool true)∧Below W.heap.size W W' :=
 (h W (St.whole W)).mono fun e W' ⟨v,G',H',he,hs,hH,hv⟩=>by
  subst hH hv
  exact ⟨he,by
   refine ⟨hs.os,hs.tape,hs.output,hs.size,fun k hk=>hs.old k hk (fun ⟨r,hr,_⟩=>by cases hr)⟩⟩
section
variable {H:Type} {enc:TypeId×Value→H} {P:Program}
theorem wM {W:World} {v:Value} {t e:TypeId} {k:IntKind} {fuel:Nat} {x:DataW H×List MemPlace} (ht:P.underlying t=some (.slice e)) (he:P.underlying e=some (.int k)) (hc:P.cellsOf e=1)
  (h:DataW.trod enc P W 0 (fun _=>true) true fuel t [v]=some x):∃ zs:List Int,(∀ z∈zs,(Lit.int k z).wf=true)∧Sl (Ex.whole W) v 1 zs.length (zs.map (.int k)):=by
 rcases open_ints ht he hc h with ⟨hv,_⟩ | ⟨a,len,cap,zs,hv,_,hl,hm,hz,_,hcell,hwz⟩
 ·obtain rfl:v=.slice none 0 0:=by simpa using hv
  exact ⟨[],by simp,Sl.nil _ _⟩
 ·obtain rfl:v=.slice (some a) len cap:=by simpa using hv
  simp only [if_true] at hz
  have hlen:(zs.take len).length=len:=by rw [Aag];omega
  refine ⟨zs.take len,fun z hz=>hwz z (List.mem_of_mem_take hz),some a,cap,by rw [hlen],by simp,by omega,hm,fun _=>⟨a,rfl,fun j u hj=>?_⟩⟩
  rw [gcell_whole]
  have hj':j<len:=by
   have:=(AbN.1 hj).1
   rw [AaC,hlen] at this;exact this
  rw [hcell j Bm]
  rw [Aak,AbJ hj'] at hj
  have hjz:j<zs.length:=by omega
  rw [AaA hjz] at hj
  simp [List.getD,AaA hjz] at hj ⊢
  exact hj
theorem tI {W:World} {v:Value} {t e:TypeId} {fuel:Nat} {x:DataW H×List MemPlace} (ht:P.underlying t=some (.slice e)) (he:P.underlying e=some (.int .u8)) (hc:P.cellsOf e=1)
  (h:DataW.trod enc P W 0 (fun _=>true) true fuel t [v]=some x):∃ bs,Bd (Ex.whole W) v bs:=by
 obtain ⟨zs,hw,hs⟩:=wM ht he hc h
 refine ⟨zs.map fun z=>UInt8.ofNat z.toNat,Bd.ofSl hs Di ?_⟩
 rw [AbV]
 refine AbX fun z hz=>?_
 have hx:0≤z∧z≤255:=by simpa [Lit.wf,IntKind.min,IntKind.max,IntKind.signed,IntKind.bits] using hw z hz
 show Value.int .u8 z=.int .u8 ((UInt8.ofNat z.toNat).toNat:Int)
 congr 1
 simp
 omega
theorem Qg {W W':World} (hl:laidOutB P=true) (hb:Below W.heap.size W W'):∀ (ts:List TypeId) {vs:List Value} {ds:List (DataW H)} {ps:List MemPlace},(ts.all fun t=>P.readableRec t && decide (t<P.types.size))=true →
  DataW.TrodAll enc P W 0 (fun _=>true) true ts vs ds ps→(∀ x∈ps,x.block<W.heap.size)→DataW.TrodAll enc P W' 0 (fun b=>decide (b<W.heap.size)) true ts vs ds ps
 | [],vs,ds,ps,_,h,_=>by
  obtain ⟨rfl,rfl,rfl⟩:=trodAll_nil h
  exact trodAll_mk0
 | t::ts,vs,ds,ps,ha,h,hlt=>by
  obtain ⟨v,vs',d,ds',p,q,rfl,rfl,rfl,h1,h2⟩:=trodAll_cons h
  simp only [List.all_cons,Aah,decide_eq_true_eq] at ha
  exact trodAll_cons_mk (Below.trod hl ha.1.1 ha.1.2 h1 hb (fun x hx=>hlt x (AaY _ hx))) (Qg hl hb ts (by simpa using ha.2) h2 (fun x hx=>hlt x (AbF _ hx)))
theorem post_law {f:Func} {s:ChangeSpec} {W W':World} {args:Array Value} {ds gs:List (DataW H)} {before:List MemPlace} {tb:TypeId} (hl:laidOutB P=true) (hp:(f.params.toList.all fun t=>P.readableRec t && decide (t<P.types.size))=true)
  (hr:f.resultTypes=#[tb]) (ht:P.underlying tb=some .bool) (hv:s.vars=[]) (hW:DataW.Whole enc P f.params.toList s.vars false W args.toList ds gs before)
  (hs:s.fn H (ds++[])={ results:=[.lit (.bool true)],args:=ds }) (hb:Below W.heap.size W W'):s.post enc P f false true false false W args (.bool true) W':=by
 have hW':=hW
 obtain ⟨p,q,hA,hV,rfl,_,_⟩:=hW
 rw [hv] at hV
 obtain ⟨rfl,rfl⟩:=trodVars_none hV
 refine ⟨ds,[],_,[],p,[],hW',?_,?_,?_,hb.frame _,fun h=>by cases h⟩
 ·rw [hs,hr]
  exact trodAll_mk1 (shut_bool ht _)
 ·rw [hs]
  exact Qg hl hb _ hp hA (fun x hx=>by simpa using hW'.lt x pB)
 ·rw [hs,hv]
  exact rfl
end
section
variable {H:Type} {enc:TypeId×Value→H} {P:Program}
theorem Sj {W:World} {v:Value} {t:TypeId} {k:IntKind} {fuel:Nat} {x:DataW H×List MemPlace} (ht:P.underlying t=some (.int k)) (h:DataW.trod enc P W 0 (fun _=>true) true fuel t [v]=some x) :
  ∃ z,v=.int k z∧(Lit.int k z).wf=true:=by
 cases fuel with
 | zero=>simp [DataW.trod] at h
 | succ n =>
  rw [DataW.trod_step] at h
  unfold DataW.trodStep at h
  simp only [ht] at h
  cases v<;>simp at h
  rename_i k' z
  obtain ⟨⟨rfl,hw⟩,_⟩:=h
  exact ⟨z,rfl,hw⟩
end
section
variable {H:Type} {enc:TypeId×Value→H} {P:Program}
def Ho (d:DataW H) (n:Nat):Prop:=n=0∨∃ el sp,d=.slice el sp∧el.length=n
theorem bytes_rowN {W:World} {v:Value} {t e:TypeId} {fuel:Nat} {x:DataW H×List MemPlace} (ht:P.underlying t=some (.slice e)) (he:P.underlying e=some (.int .u8)) (hc:P.cellsOf e=1)
  (h:DataW.trod enc P W 0 (fun _=>true) true fuel t [v]=some x):∃ bs,Bd (Ex.whole W) v bs∧Ho x.1 bs.length:=by
 obtain ⟨bs,hb⟩:=tI ht he hc h
 refine ⟨bs,hb,?_⟩
 rcases open_ints ht he hc h with ⟨hv,_⟩ | ⟨a,len,cap,zs,hv,_,hl,_,hz,hx,_,_⟩
 ·obtain rfl:v=.slice none 0 0:=by simpa using hv
  obtain ⟨A,c,h1,_⟩:=hb
  injection h1 with _ h2 _
  exact .inl h2.symm
 ·obtain rfl:v=.slice (some a) len cap:=by simpa using hv
  obtain ⟨A,c,h1,_⟩:=hb
  injection h1 with _ h2 _
  refine .inr ⟨_,_,by rw [hx],?_⟩
  simp only [if_true] at hz
  unfold lits
  rw [AaC,Aag,← h2];omega
end
end Go.Ex
namespace Go.Proofs.YtmohebpaonkaeaaGreatDoor.Bulk
open Go Go.Ex
theorem one {H:Type} (d:DataW H):1≤Rows.uptoBulk d:=by
 cases d with
 | lit l=>cases l<;>simp [Rows.uptoBulk]
 | _=>simp [Rows.uptoBulk]
theorem mem {H:Type} {d:DataW H}:∀ {l:List (DataW H)},d∈l→Rows.uptoBulk d≤Rows.uptoBulkAll l
 | [],h=>by cases h
 | x::l,h=>by
  rw [Rows.uptoBulkAll]
  rcases AaV.1 h with rfl | h
  ·omega
  ·have:=mem h;omega
theorem count {H:Type}:∀ l:List (DataW H),l.length≤Rows.uptoBulkAll l
 | []=>Aas _
 | x::l=>by
  have h1:=count l
  have h2:=one x
  rw [Rows.uptoBulkAll,AaZ];omega
theorem places {H:Type} {d:DataW H} {n:Nat} (h:Ho d n):n≤Rows.uptoBulk d:=by
 rcases h with rfl | ⟨el,sp,rfl,rfl⟩
 ·exact Aas _
 ·have:=count el
  rw [Rows.uptoBulk];omega
theorem bound {H:Type} {l:List (DataW H)} (h:Rows.uptoSmall H l=true):Rows.uptoBulkAll l≤1048576:=of_decide_eq_true h
theorem len_le {H:Type} {d:DataW H} {l:List (DataW H)} {n:Nat} (h:Ho d n) (hd:d∈l) (hk:Rows.uptoSmall H l=true):n≤1048576 :=
 Aai (places h) (Aai (mem hd) (bound hk))
end Go.Proofs.YtmohebpaonkaeaaGreatDoor.Bulk
namespace Go.Ex
open Go Go.RowKit
def RtX (P:Program) (N:Nat) (fn:Func) (R X:Value→World→Prop):Exit→Env→World→Prop
 | .normal,E,w|.ret,E,w=>E.d=[]∧∃ v,(∀ a,Ag N E a→(results fn a.tmps).run P w=.ok v w)∧R v w
 | .panic ch,E,w=>E.d=[]∧∃ v,ch=[{ v:=v,recovered:=false }]∧X v w
 | _,_,_=>False
def FnX (P:Program) (f:FuncId) (args:List Value) (G:Ah) (H:List Res) (R:Value→Ah→List Res→Prop) (X:Value→Ah→Prop):Prop :=
 ∀ w,St ⟨w,G,Bj H⟩ G H w→Calls P f args.toArray w fun e w'=>(∃ v G' H',e=.returned v∧St ⟨w,G,Bj H⟩ G' H' w'∧R v G' H')∨∃ v G',e=.panicked [{ v:=v,recovered:=false }]∧St ⟨w,G,Bj H⟩ G' [] w'∧X v G'
theorem FnX.mono {P:Program} {f:FuncId} {args:List Value} {G:Ah} {H:List Res} {R R':Value→Ah→List Res→Prop} {X X':Value→Ah→Prop} (h:FnX P f args G H R X)
  (hr:∀ v G' H',G.le G'→R v G' H'→R' v G' H') (hx:∀ v G',G.le G'→X v G'→X' v G'):FnX P f args G H R' X':=fun w hw =>
 (h w hw).mono fun _ _ he=>by
  rcases he with ⟨v,G',H',he,hs,hR⟩ | ⟨v,G',he,hs,hX⟩
  ·exact .inl ⟨v,G',H',he,hs,hr v G' H' hs.le hR⟩
  ·exact .inr ⟨v,G',he,hs,hx v G' hs.le hX⟩
theorem FnX.call {P:Program} {f:FuncId} {args:List Value} {G:Ah} {H1 H:List Res} {R:Value→Ah→List Res→Prop} {X:Value→Ah→Prop} (h:FnX P f args G H1 R X) {c:Ctx} {w:World} (hs:St c G (H1++H) w) :
  Calls P f args.toArray w fun e w'=>(∃ v G' H',e=.returned v∧G.le G'∧St c G' (H'++H) w'∧R v G' H')∨∃ v G',e=.panicked [{ v:=v,recovered:=false }]∧G.le G'∧St c G' H w'∧X v G':=by
 have hpw:=Abq.1 hs.apart
 have h0:St ⟨w,G,Bj H1⟩ G H1 w:=⟨rfl,rfl,rfl,AaR _,fun _ _ _=>rfl,gLr G,fun k o hk=>.inl hk,hs.ghost,fun r hr=>hs.hold r (AaY _ hr),
  fun r hr k hk=>⟨(hs.off r (AaY _ hr) k hk).1,.inr ⟨r,hr,hk⟩⟩,hpw.1,AaR _⟩
 have key:∀ G' H' w',St ⟨w,G,Bj H1⟩ G' H' w'→St c G' (H'++H) w':=fun G' H' w' h'=>by
  refine St.step hs h'.os h'.tape h'.output h'.size (fun k hk hk'=>h'.old k hk (fun ⟨r,hr,hrk⟩=>hk' r hr hrk)) h'.le h'.new (fun k o hk _=>h'.ghost k o hk) h'.hold ?_ h'.apart h'.drn
  intro r hr k hk
  exact h'.off r hr k hk
 refine (h w h0).mono fun e w' he=>?_
 rcases he with ⟨v,G',H',he,h',hR⟩ | ⟨v,G',he,h',hX⟩
 ·exact .inl ⟨v,G',H',he,h'.le,key G' H' w' h',hR⟩
 ·exact .inr ⟨v,G',he,h'.le,key G' [] w' h',hX⟩
theorem iO {P:Program} {f:FuncId} {fn:Func} {N:Nat} {c:Code} {args:List Value} {w:World} {R X:Value→World→Prop} {L:List (Nat×Value)}
  (hf:P.funcs[f]?=some fn) (hb:fn.body=some c) (hN:fn.ntmps=N) (hn:args.length≤N) (hL:Nu 0 args=L)
  (h:T ⟨P,N,none⟩ c (RtX P N fn R X) ⟨[],L⟩ w):Calls P f args.toArray w fun e w'=>(∃ v,e=.returned v∧R v w')∨∃ v,e=.panicked [{ v:=v,recovered:=false }]∧X v w':=by
 subst hL
 refine (callsIn_wide (n:=0)).1 (callsIn_of_wp hf hb trivial ?_ rfl)
 have ha:Ag N ⟨[],Nu 0 args⟩ { tmps:=args.toArray++Array.replicate (fn.ntmps-args.toArray.size) undef,defers:=[] }:=by
  refine ⟨by simp [hN];omega,rfl,fun t v ht=>?_⟩
  obtain ⟨_,h2⟩:=Pj args 0 t v ht
  have hlt:t<args.length:=by
   rcases AaM t args.length with h' | h'
   ·exact h'
   ·rw [AaL Bm] at h2;cases h2
  rw [Array.getElem?_append_left (by simpa using hlt)]
  simpa using h2
 refine wpIn_mono (h _ ha) ?_
 rintro e a' w' ⟨E,hE,hq⟩
 cases e<;>simp only [RtX] at hq<;>try exact hq.elim
 ·obtain ⟨hd,v,hv,hR⟩:=hq
  exact ⟨hE.defs.trans hd,v,hv a' hE,.inl ⟨v,rfl,hR⟩⟩
 ·obtain ⟨hd,v,hv,hR⟩:=hq
  exact ⟨hE.defs.trans hd,v,hv a' hE,.inl ⟨v,rfl,hR⟩⟩
 ·obtain ⟨hd,v,rfl,hX⟩:=hq
  exact ⟨hE.defs.trans hd,.inr ⟨v,rfl,hX⟩⟩
theorem FnX.of_T {P:Program} {f:FuncId} {fn:Func} {N:Nat} {c:Code} {args:List Value} {G:Ah} {H:List Res} {R:Value→Ah→List Res→Prop} {X:Value→Ah→Prop} (L:List (Nat×Value))
  (hf:P.funcs[f]?=some fn) (hb:fn.body=some c) (hN:fn.ntmps=N) (hn:args.length≤N) (hL:Nu 0 args=L)
  (h:∀ w,St ⟨w,G,Bj H⟩ G H w→T ⟨P,N,none⟩ c (RtX P N fn (fun v w'=>∃ G' H',St ⟨w,G,Bj H⟩ G' H' w'∧R v G' H') fun v w'=>∃ G',St ⟨w,G,Bj H⟩ G' [] w'∧X v G') ⟨[],L⟩ w):FnX P f args G H R X:=fun w hw =>
 (iO hf hb hN hn hL (h w hw)).mono fun _ _ he=>by
  rcases he with ⟨v,he,G',H',hs,hR⟩ | ⟨v,he,G',hs,hX⟩
  ·exact .inl ⟨v,G',H',he,hs,hR⟩
  ·exact .inr ⟨v,G',he,hs,hX⟩
section
variable {x:Cx} {Q:Exit→Env→World→Prop} {E:Env} {K:Value→World→Prop} {w:World} {d:Option Tmp} {ty:TypeId} {pos:String} {aft:Array Edge} {g:Option (Nat×Bool)} {c:Ctx} {G:Ah} {H:List Res}
end
section
variable {x:Cx} {W:World→Prop} {E:Env} {K:Value→Prop} {d:Option Tmp} {ty:TypeId} {pos:String} {aft:Array Edge} {g:Option (Nat×Bool)}
end
theorem Bt {P:Program} {E:Env} {w:World} {c:Ctx} {G:Ah} {H:List Res} {a b e:Nat} {ty:TypeId} {v:Value} (i:Nat) (hs:St c G H w) (hA:∀ w,(isAgg ty).run P w=.ok false w)
  (h:Em E.l a=some (.pointer (some ⟨b,0,none⟩))) (hi:H[i]?=some (.blk b e [v])):Om P E w (.cell a ty) v:=by
 refine ⟨_,h,?_⟩
 have hb:w.heap[b]?=some (.cells #[v] e (0,0)):=hs.hold _ (AaF hi)
 have hc:w.cell? ⟨b,0,none⟩=some v:=by simp [World.cell?,hb]
 simp [loadVar,hA w,hc]
section
variable {x:Cx} {Q:Exit→Env→World→Prop} {w:World} {ty:TypeId} {pos:String} {aft:Array Edge}
end
section
variable {x:Cx} {W:World→Prop} {E:Env} {K:Value→Prop} {d:Option Tmp} {ty:TypeId} {pos:String} {aft:Array Edge} {g:Option (Nat×Bool)} {o:Operand} {xt yt:TypeId}
end
section
variable {x:Cx} {ops:Array Oper} {pre:List Nat} {W:World→Prop} {Q:Exit→Env→World→Prop} {E:Env} {w:World}
theorem A_onlyN (i:Nat) {op:Op} {ty:TypeId} {pos:String} {aft:Array Edge} {g:Option (Nat×Bool)} {fuel:Nat} {listed:Array Bool} (hi:ops[i]?=some ⟨none,op,ty,pos,aft,g⟩)
  (hr:(Region.ready .any ops listed == [i])=true) (hg:gd ops ⟨none,op,ty,pos,aft,g⟩ E=some true)
  (h:S x ⟨none,op,ty,pos,aft,g⟩ (np Q) (fun _ w'=>W w'∧A x ops pre W Q fuel (listed.setIfInBounds i true) E w') E w):A x ops pre W Q (fuel+1) listed E w :=
 pG i hi hr hg (Kl h fun _ _ hv=>⟨fun _=>hv.1,hv.2⟩)
end
theorem On {P:Program} {w:World} {t:TypeId} {xs:Array Value} {i:Nat} {v:Value} (hA:∀ w,(isAgg t).run P w=.ok false w) (hx:xs[i]?=some v):(part t xs i).run P w=.ok v w:=by
 simp [part,hA w,hx]
theorem iP {P:Program} {w:World} (d:Nat) {e:TypeId} (he:P.underlying e=some (.int .u64)) (a b:Nat) (ha:a<W64) (hb:b<W64):(Op.equalIn (d+1) e (Bb a) (Bb b)).run P w=.ok (decide (a=b)) w:=by
 unfold Bb
 rw [run_equalIn_int w d e _ _ _ _ he]
 congr 1
 by_cases h:a=b
 ·subst h;simp
 ·have h2:¬ ((a:Int)=(b:Int)):=by omega
  simp [h,h2]
theorem Zb {P:Program} {w:World} (d:Nat) {t e:TypeId} (ht:P.underlying t=some (.array 4 e)) (hS:∀ w,(sizeOf e).run P w=.ok 1 w) (hA:∀ w,(isAgg e).run P w=.ok false w) (he:P.underlying e=some (.int .u64)) {x y:List Nat}
  (hx:x.length=4) (hy:y.length=4) (hxw:∀ a∈x,a<W64) (hyw:∀ a∈y,a<W64) :
  (Op.equalIn (d+2) t (.agg (x.map Bb).toArray) (.agg (y.map Bb).toArray)).run P w=.ok (decide (x=y)) w:=by
 obtain ⟨a0,a1,a2,a3,rfl⟩:∃ a b c d,x=[a,b,c,d]:=by
  match x,hx with
  | [a,b,c,d],_=>exact ⟨a,b,c,d,rfl⟩
 obtain ⟨b0,b1,b2,b3,rfl⟩:∃ a b c d,y=[a,b,c,d]:=by
  match y,hy with
  | [a,b,c,d],_=>exact ⟨a,b,c,d,rfl⟩
 have hp:∀ (c0 c1 c2 c3:Nat) (i:Nat) (v:Value),[Bb c0,Bb c1,Bb c2,Bb c3][i]?=some v→∀ w,(part e (([c0,c1,c2,c3].map Bb).toArray) i).run P w=.ok v w:=fun c0 c1 c2 c3 i v h w=>On hA iB
 have hq:=fun (a b:Nat) (h1:a<W64) (h2:b<W64) (w:World)=>iP (P:=P) (w:=w) d he a b h1 h2
 have h0:=hxw a0 Di;have h1:=hxw a1 Di;have h2:=hxw a2 Di;have h3:=hxw a3 Di
 have g0:=hyw b0 Di;have g1:=hyw b1 Di;have g2:=hyw b2 Di;have g3:=hyw b3 Di
 have e0:=hp a0 a1 a2 a3 0 _ rfl;have e1:=hp a0 a1 a2 a3 1 _ rfl;have e2:=hp a0 a1 a2 a3 2 _ rfl;have e3:=hp a0 a1 a2 a3 3 _ rfl
 have k0:=hp b0 b1 b2 b3 0 _ rfl;have k1:=hp b0 b1 b2 b3 1 _ rfl;have k2:=hp b0 b1 b2 b3 2 _ rfl;have k3:=hp b0 b1 b2 b3 3 _ rfl
 generalize ([a0,a1,a2,a3].map Bb).toArray=X at *
 generalize ([b0,b1,b2,b3].map Bb).toArray=Y at *
 have q0:=hq a0 b0 h0 g0;have q1:=hq a1 b1 h1 g1;have q2:=hq a2 b2 h2 g2;have q3:=hq a3 b3 h3 g3
 rw [Op.equalIn]
 simp only [Sem.run_bind,run_underlying ht,Result.andThen_ok,hS,Std.Legacy.Range.forIn_eq_forIn_range',Std.Legacy.Range.size]
 rw [show List.range' 0 ((4-0+1-1) / 1)=[0,1,2,3] from rfl]
 have hd:decide ([a0,a1,a2,a3]=[b0,b1,b2,b3])=(decide (a0=b0) && (decide (a1=b1) && (decide (a2=b2) && decide (a3=b3)))):=by simp
 rw [hd]
 generalize decide (a0=b0)=r0 at *
 generalize decide (a1=b1)=r1 at *
 generalize decide (a2=b2)=r2 at *
 generalize decide (a3=b3)=r3 at *
 simp only [List.forIn_cons,List.forIn_nil,Sem.run_bind,Nat.zero_mul,AcE,Abf,e0,e1,e2,e3,k0,k1,k2,k3,q0,q1,q2,q3,Result.andThen_ok]
 cases r0<;>simp only [AcP,AcQ,AbK,if_true,if_false,Sem.run_pure,Result.andThen_ok,Bool.false_and,AcF]
 cases r1<;>simp only [AcP,AcQ,AbK,if_true,if_false,Sem.run_pure,Result.andThen_ok,Bool.false_and,AcF,Sem.run_bind,e1,e2,e3,k1,k2,k3,q1,q2,q3]
 cases r2<;>simp only [AcP,AcQ,AbK,if_true,if_false,Sem.run_pure,Result.andThen_ok,Bool.false_and,AcF,Sem.run_bind,e1,e2,e3,k1,k2,k3,q1,q2,q3]
 cases r3<;>simp only [AcP,AcQ,AbK,if_true,if_false,Sem.run_pure,Result.andThen_ok,Bool.false_and,AcF,Sem.run_bind,e1,e2,e3,k1,k2,k3,q1,q2,q3]
section
variable {x:Cx} {E:Env} {K:Value→Prop} {d:Option Tmp} {ty:TypeId} {pos:String} {aft:Array Edge} {g:Option (Nat×Bool)} {o q:Operand} {c:Ctx} {G:Ah} {H:List Res}
theorem Cm {t b i e n cap:Nat} {v:Value} {xs:List Value} (h:Nat) (hi:H[h]?=some (.row e 1 (.slice (some ⟨b,0,none⟩) n cap) n xs)) (hA:∀ w,(isAgg t).run x.P w=.ok false w) (ho:ev E o=some (.pointer (some ⟨b,i,none⟩)))
  (hx:xs[i]?=some v) (k:K v):Y x (St c G H) ⟨d,.load t o,ty,pos,aft,g⟩ E K :=
 Du (v:=v) (fun a ha w hw=>by
  have hr:w.ownsRow 0 e 1 (.slice (some ⟨b,0,none⟩) n cap) n xs:=hw.hold (.row e 1 _ n xs) (AaF hi)
  have hc:w.cell? ⟨b,i,none⟩=some v:=by
   rcases hr.2 with ⟨h0,_⟩ | ⟨b',cap',cur,h0,_,hh,_,_,_,htk⟩
   ·cases h0
   ·injection h0 with h1' h2' h3'
    injection h1' with h1'
    injection h1' with h1'
    subst h1'
    rw [Abf] at htk
    have hlt:i<n:=by
     rcases AaM i n with h' | h'
     ·exact h'
     ·rw [AaL (by rw [hr.1];omega)] at hx;cases hx
    rw [← htk,AbJ hlt] at hx
    simpa [World.cell?,hh] using hx
  simp [execOp,ha.ev ho,Instr.loadAt,Instr.sureAddr,loadVar,hA w,hc]) k
end
section
variable {x:Cx} {W:World→Prop} {E:Env} {K:Value→Prop} {d:Option Tmp} {ty:TypeId} {pos:String} {aft:Array Edge} {g:Option (Nat×Bool)} {o q:Operand} {xt yt:TypeId}
theorem Y_neqW {e:TypeId} {a b:List Nat} (ht:x.P.underlying xt=some (.array 4 e)) (hS:∀ w,(sizeOf e).run x.P w=.ok 1 w) (hA:∀ w,(isAgg e).run x.P w=.ok false w) (he:x.P.underlying e=some (.int .u64)) (hg:x.P.eqGuardType x.P.depth xt=false)
  (h1:ev E o=some (.agg (a.map Bb).toArray)) (h2:ev E q=some (.agg (b.map Bb).toArray)) (hx:a.length=4) (hy:b.length=4) (hxw:∀ x∈a,x<W64) (hyw:∀ x∈b,x<W64) (k:K (.bool (!decide (a=b)))):Y x W ⟨d,.binOp .neq xt o q yt,ty,pos,aft,g⟩ E K :=
 Du (v:=.bool (!decide (a=b))) (fun f hf w _=>by
  have h':(binOp .neq xt (.agg (a.map Bb).toArray) (.agg (b.map Bb).toArray)).run x.P w=.ok (.bool (!decide (a=b))) w:=by
   rw [run_neq_struct,Zb 9998 ht hS hA he hx hy hxw hyw];rfl
  simp only [execOp,hf.ev h1,hf.ev h2,Sem.run_bind,run_eqGuard_agg w _ _ _ _ _ _ hg,Result.andThen_ok,h',Sem.run_pure]) k
theorem Nc {e:TypeId} {a b:List Nat} (ht:x.P.underlying xt=some (.array 4 e)) (hS:∀ w,(sizeOf e).run x.P w=.ok 1 w) (hA:∀ w,(isAgg e).run x.P w=.ok false w) (he:x.P.underlying e=some (.int .u64)) (hg:x.P.eqGuardType x.P.depth xt=false)
  (h1:ev E o=some (.agg (a.map Bb).toArray)) (h2:ev E q=some (.agg (b.map Bb).toArray)) (hx:a.length=4) (hy:b.length=4) (hxw:∀ x∈a,x<W64) (hyw:∀ x∈b,x<W64) (kt:¬ a=b→K (.bool true)) (kf:a=b→K (.bool false)):Y x W ⟨d,.binOp .neq xt o q yt,ty,pos,aft,g⟩ E K :=
 Y_neqW ht hS hA he hg h1 h2 hx hy hxw hyw (by
  by_cases h:a=b
  ·simpa [h] using kf h
  ·simpa [h] using kt h)
end
section
variable {x:Cx} {W:World→Prop} {E:Env} {K:Value→Prop} {d:Option Tmp} {ty:TypeId} {pos:String} {aft:Array Edge} {g:Option (Nat×Bool)} {o q:Operand} {xt yt:TypeId}
theorem Nf {s i n:Nat} {p:Addr} (hf:Mi x.P s i=some n) (h:ev E o=some (.pointer (some p))) (k:K (.pointer (some (p.add n)))):Y x W ⟨d,.fieldAddr s o i,ty,pos,aft,g⟩ E K :=
 Du (v:=.pointer (some (p.add n))) (fun a ha w _=>by
  unfold Mi at hf
  cases hu:x.P.underlying s with
  | none=>rw [hu] at hf;cases hf
  | some td =>
   rw [hu] at hf
   cases td with
   | struct fs =>
    simp only at hf
    cases hq:fs[i]? with
    | none=>rw [hq] at hf;cases hf
    | some f =>
     rw [hq] at hf
     simp only [AcT] at hf
     cases ht:x.P.info? f.type with
     | none=>rw [ht] at hf;cases hf
     | some t =>
      rw [ht] at hf
      simp only [AcT] at hf
      split at hf
      ·cases hf
      ·rename_i hz
       injection hf with hf
       subst hf
       simp [execOp,ha.ev h,Instr.fieldAt,Instr.sureAddr,run_underlying hu,hq,fieldPlace,sizeOf,typeInfo,ht,hz]
   | _=>simp at hf) k
end
section
variable {x:Cx} {E:Env} {K:Value→Prop} {d:Option Tmp} {ty:TypeId} {pos:String} {aft:Array Edge} {g:Option (Nat×Bool)} {o q:Operand} {c:Ctx} {G:Ah} {H:List Res}
end
section
variable {x:Cx} {Q:Exit→Env→World→Prop} {E:Env} {K:Value→World→Prop} {w:World} {d:Option Tmp} {ty:TypeId} {pos:String} {aft:Array Edge} {g:Option (Nat×Bool)} {c:Ctx} {G:Ah} {H:List Res}
end
def K2 (a b:Int):Value:=.agg #[.int .i64 a,.int .i64 b]
theorem K2_inj {a b c d:Int}:K2 a b=K2 c d↔a=c∧b=d:=by
 constructor
 ·intro h;injection h with h;simp at h;exact h
 ·rintro ⟨rfl,rfl⟩;rfl
structure iQ (P:Program) (kt:TypeId):Prop where
 fs : ∃ f0 f1 : Field, P.underlying kt = some (.struct #[f0, f1]) ∧ f0.name ≠ "_" ∧ f1.name ≠ "_" ∧ f0.offset = 0 ∧ f1.offset = 1 ∧
  P.underlying f0.type=some (.int .i64)∧P.underlying f1.type=some (.int .i64)∧(∀ w,(isAgg f0.type).run P w=.ok false w)∧(∀ w,(isAgg f1.type).run P w=.ok false w)
 held:P.stoodInHeld kt=false
theorem iQ.eq {P:Program} {kt:TypeId} (h:iQ P kt) (a b c d:Int) (w:World):(Op.equal kt (K2 a b) (K2 c d)).run P w=.ok (decide (a=c∧b=d)) w:=by
 obtain ⟨⟨f0,f1,hu,hn0,hn1,ho0,ho1,ht0,ht1,hA0,hA1⟩,hh⟩:=h
 have hf:P.fieldsOf kt=#[f0,f1]:=by unfold Program.fieldsOf;rw [hu]
 have p0:∀ (u v:Value) (w:World),(part f0.type #[u,v] f0.offset).run P w=.ok u w:=fun u v w=>On hA0 (by rw [ho0];rfl)
 have p1:∀ (u v:Value) (w:World),(part f1.type #[u,v] f1.offset).run P w=.ok v w:=fun u v w=>On hA1 (by rw [ho1];rfl)
 unfold K2 Op.equal Op.maxDepth
 rw [run_equalIn_struct w 9999 kt _ _ (by rw [hf];exact hu) hh,hf]
 show (Op.eqFields 9999 _ _ [f0,f1]).run P w=_
 simp only [Op.eqFields,if_pos hn0,if_pos hn1,Sem.run_bind,p0,p1,Result.andThen_ok,run_equalIn_int w 9998 f0.type _ _ _ _ ht0]
 by_cases h1:a=c
 ·subst h1
  simp only [beq_self_eq_true,AcP,AbK,if_false,Sem.run_bind,p1,Result.andThen_ok,run_equalIn_int w 9998 f1.type _ _ _ _ ht1]
  by_cases h2:b=d
  ·subst h2;simp [Op.eqFields]
  ·have:(b == d)=false:=by simpa using h2
   simp [this,h2]
 ·have:(a == c)=false:=by simpa using h1
  simp [this,h1]
theorem iQ.check {P:Program} {kt:TypeId} (h:iQ P kt) (em:Bool) (a b:Int) (w:World):(Instr.checkKey em 10000 kt (K2 a b)).run P w=.ok () w:=by
 obtain ⟨⟨f0,f1,hu,hn0,hn1,ho0,ho1,ht0,ht1,hA0,hA1⟩,hh⟩:=h
 have p0:∀ (u v:Value) (w:World),(part f0.type #[u,v] f0.offset).run P w=.ok u w:=fun u v w=>On hA0 (by rw [ho0];rfl)
 have p1:∀ (u v:Value) (w:World),(part f1.type #[u,v] f1.offset).run P w=.ok v w:=fun u v w=>On hA1 (by rw [ho1];rfl)
 have c0:∀ w,(Instr.checkKey em 9999 f0.type (.int .i64 a)).run P w=.ok () w:=fun w=>MapKept.run_checkKey (k:=.int .i64 a) ht0 (by simp [MapKept.IsKey]) em 9998
 have c1:∀ w,(Instr.checkKey em 9999 f1.type (.int .i64 b)).run P w=.ok () w:=fun w=>MapKept.run_checkKey (k:=.int .i64 b) ht1 (by simp [MapKept.IsKey]) em 9998
 unfold K2
 rw [Instr.checkKey]
 simp only [Sem.run_bind,run_underlying hu,Result.andThen_ok]
 rw [← Array.forIn_toList]
 simp only [List.forIn_cons,List.forIn_nil,if_pos hn0,if_pos hn1,Sem.run_bind,p0,p1,Result.andThen_ok,c0,c1,Sem.run_pure]
def Keys2 (es:List MapEntry):Prop:=∀ e∈es,∃ a b,e.key=K2 a b
theorem iQ.asking {P:Program} {kt:TypeId} (h:iQ P kt) (a b:Int):∀ (es:List MapEntry) (i:Nat),Keys2 es →
  ((∀ w,(Instr.findAsking kt (K2 a b) es i).run P w=.ok none w)∧∀ e∈es,e.key≠K2 a b)∨∃ j,∃ e∈es,(∀ w,(Instr.findAsking kt (K2 a b) es i).run P w=.ok (some (j,e.val)) w)∧e.key=K2 a b
 | [],i,_=>.inl ⟨fun w=>by simp [Instr.findAsking],by simp⟩
 | e::es,i,hk=>by
  obtain ⟨c,d,hcd⟩:=hk e Di
  have hr:=fun w=>h.eq a b c d w
  by_cases hab:a=c∧b=d
  ·right
   refine ⟨i,e,by simp,fun w=>?_,by rw [hcd,hab.1,hab.2]⟩
   rw [Instr.findAsking,Sem.run_bind,hcd,hr,decide_eq_true hab]
   simp
  ·have hne:e.key≠K2 a b:=fun he=>by rw [hcd,K2_inj] at he;exact hab ⟨he.1.symm,he.2.symm⟩
   rcases h.asking a b es (i+1) (fun x hx=>hk x pB) with ⟨h1,h2⟩ | ⟨j,e',h1,h2,h3⟩
   ·left
    refine ⟨fun w=>?_,fun x hx=>?_⟩
    ·rw [Instr.findAsking,Sem.run_bind,hcd,hr,decide_eq_false hab];simp [h1]
    ·rcases AaV.1 hx with rfl | hx
     ·exact hne
     ·exact h2 x hx
   ·right
    exact ⟨j,e',by simp [h1],fun w=>by rw [Instr.findAsking,Sem.run_bind,hcd,hr,decide_eq_false hab];simp [h2],h3⟩
theorem iQ.find {P:Program} {kt:TypeId} (h:iQ P kt) (a b:Int) (es:List MapEntry) (hk:Keys2 es) :
  ((∀ w,(Instr.findKey kt (K2 a b) es).run P w=.ok none w)∧∀ e∈es,e.key≠K2 a b)∨∃ j,∃ e∈es,(∀ w,(Instr.findKey kt (K2 a b) es).run P w=.ok (some (j,e.val)) w)∧e.key=K2 a b:=by
 obtain ⟨f0,f1,hu,_⟩:=h.fs
 cases es with
 | nil=>exact .inl ⟨fun w=>by simp [Instr.findKey,run_underlying hu,Instr.findNow],by simp⟩
 | cons e es =>
  obtain ⟨c,d,hcd⟩:=hk e Di
  have hn:Instr.findNow (.struct #[f0,f1]) (K2 a b) (e::es) 0=none:=by
   rw [Instr.findNow,hcd];rfl
  have hf:∀ w,(Instr.findKey kt (K2 a b) (e::es)).run P w=(Instr.findAsking kt (K2 a b) (e::es) 0).run P w:=fun w=>by
   simp only [Instr.findKey,Sem.run_bind,run_underlying hu,Result.andThen_ok,hn]
  simp only [hf]
  exact h.asking a b (e::es) 0 hk
section
variable {x:Cx} {Q:Exit→Env→World→Prop} {E:Env} {d:Option Tmp} {ty:TypeId} {pos:String} {aft:Array Edge} {g:Option (Nat×Bool)} {c:Ctx} {G:Ah} {H:List Res}
end
end Go.Ex
namespace Go.Ex
open Go
def Sk (M:List (Nat×Value)):List Nat→Option (List (Nat×Value))
 | []=>some []
 | k::ks=>match Em M k with
  | none=>none
  | some u=>match Sk M ks with
   | none=>none
   | some L=>some ((k,u)::L)
theorem Mk {M:List (Nat×Value)}:∀ {ks:List Nat} {L:List (Nat×Value)},Sk M ks=some L→Jq L M
 | [],L,h=>by cases h;trivial
 | k::ks,L,h=>by
  unfold Sk at h
  cases h1:Em M k with
  | none=>rw [h1] at h;cases h
  | some u =>
   rw [h1] at h;dsimp only at h
   cases h2:Sk M ks with
   | none=>rw [h2] at h;cases h
   | some L2=>rw [h2] at h;cases h;exact ⟨h1,Mk h2⟩
theorem T_kp {x:Cx} {Q:Exit→Env→World→Prop} {w:World} {D:List Deferred} {M L:List (Nat×Value)} {c:Code} (ks:List Nat) (h:Sk M ks=some L) (hT:T x c Q ⟨D,L⟩ w):T x c Q ⟨D,M⟩ w:=Oh L (Mk h) hT
section
variable {x:Cx} {ops:Array Oper} {Q:Exit→Env→World→Prop} {w:World} {t:Tmp} {o:Operand} {v:Value} {ty:TypeId} {pos:String} {aft:Array Edge} {l:List Oper} {D:List Deferred} {L:List (Nat×Value)}
end
section
variable {c:Ctx} {G:Ah} {H:List Res} {w:World} {r1 r2 r3 r4 r5 r6 r7 r8 r9 r10 r11 r12 r13 r14:Res}
theorem St.f1 (h:St c G (r1::r2::H) w):St c G (r2::r1::H) w:=h.front 1 rfl rfl
theorem St.f2 (h:St c G (r1::r2::r3::H) w):St c G (r3::r1::r2::H) w:=h.front 2 rfl rfl
theorem St.f3 (h:St c G (r1::r2::r3::r4::H) w):St c G (r4::r1::r2::r3::H) w:=h.front 3 rfl rfl
theorem St.f4 (h:St c G (r1::r2::r3::r4::r5::H) w):St c G (r5::r1::r2::r3::r4::H) w:=h.front 4 rfl rfl
theorem St.f5 (h:St c G (r1::r2::r3::r4::r5::r6::H) w):St c G (r6::r1::r2::r3::r4::r5::H) w:=h.front 5 rfl rfl
theorem St.f6 (h:St c G (r1::r2::r3::r4::r5::r6::r7::H) w):St c G (r7::r1::r2::r3::r4::r5::r6::H) w:=h.front 6 rfl rfl
theorem St.f7 (h:St c G (r1::r2::r3::r4::r5::r6::r7::r8::H) w):St c G (r8::r1::r2::r3::r4::r5::r6::r7::H) w:=h.front 7 rfl rfl
theorem St.f8 (h:St c G (r1::r2::r3::r4::r5::r6::r7::r8::r9::H) w):St c G (r9::r1::r2::r3::r4::r5::r6::r7::r8::H) w:=h.front 8 rfl rfl
theorem St.f9 (h:St c G (r1::r2::r3::r4::r5::r6::r7::r8::r9::r10::H) w):St c G (r10::r1::r2::r3::r4::r5::r6::r7::r8::r9::H) w:=h.front 9 rfl rfl
theorem St.f10 (h:St c G (r1::r2::r3::r4::r5::r6::r7::r8::r9::r10::r11::H) w):St c G (r11::r1::r2::r3::r4::r5::r6::r7::r8::r9::r10::H) w:=h.front 10 rfl rfl
theorem St.f11 (h:St c G (r1::r2::r3::r4::r5::r6::r7::r8::r9::r10::r11::r12::H) w):St c G (r12::r1::r2::r3::r4::r5::r6::r7::r8::r9::r10::r11::H) w:=h.front 11 rfl rfl
theorem St.f12 (h:St c G (r1::r2::r3::r4::r5::r6::r7::r8::r9::r10::r11::r12::r13::H) w):St c G (r13::r1::r2::r3::r4::r5::r6::r7::r8::r9::r10::r11::r12::H) w:=h.front 12 rfl rfl
theorem St.f13 (h:St c G (r1::r2::r3::r4::r5::r6::r7::r8::r9::r10::r11::r12::r13::r14::H) w):St c G (r14::r1::r2::r3::r4::r5::r6::r7::r8::r9::r10::r11::r12::r13::H) w:=h.front 13 rfl rfl
end
end Go.Ex
namespace Go.Ex
open Go Go.RowKit
def B (x:Cx) (ops:Array Oper) (Q:Exit→Env→World→Prop) (fuel:Nat) (listed:Array Bool) (E:Env) (w:World):Prop :=
 Mu x.N ops.toList=true→∀ a,Ag x.N E a→wpAnyIn (RF x.r) 0 x.P .any ops (Uc x.N Q) fuel listed a w
section
variable {x:Cx} {ops:Array Oper} {Q:Exit→Env→World→Prop} {E:Env} {w:World}
end
section
variable {x:Cx} {E:Env} {d:Option Tmp} {ty:TypeId} {pos:String} {aft:Array Edge} {g:Option (Nat×Bool)} {c:Ctx} {G:Ah} {H:List Res} {w:World} {Q:Exit→Env→World→Prop} {K:Value→World→Prop}
def mS (cs:Array Value) (s:List UInt8) (cap:Nat):Prop:=cs.toList.take s.length=s.map Dy∧s.length≤cap∧cap≤maxLen∧s.length≤cs.size
theorem mS.set {cs:Array Value} {s:List UInt8} {cap i:Nat} {b:UInt8} (h:mS cs s cap):mS (cs.setIfInBounds i (Dy b)) (s.set i b) cap:=by
 obtain ⟨h1,h2,h3,h4⟩:=h
 refine ⟨?_,by simpa using h2,h3,by simpa using h4⟩
 rw [AaP,Array.toList_setIfInBounds,List.take_set,h1,Aad]
end
section
variable {x:Cx} {W:World→Prop} {E:Env} {K:Value→Prop} {d:Option Tmp} {ty:TypeId} {pos:String} {aft:Array Edge} {g:Option (Nat×Bool)}
theorem tJ {o q:Operand} {t e:TypeId} {kd:IntKind} {n s:Nat} {p:Addr} {j:Int} (i:Nat) (hu:x.P.underlying t=some (.array n e)) (hs:∀ w,(sizeOf e).run x.P w=.ok s w)
  (h1:ev E o=some (.pointer (some p))) (h2:ev E q=some (.int kd j)) (hj:j=(i:Int)) (hlt:i<n)
  (k:K (.pointer (some (p.add (i*s))))):Y x W ⟨d,.indexAddr t o q,ty,pos,aft,g⟩ E K:=by
 subst hj
 refine Du (v:=.pointer (some (p.add (i*s)))) (fun f hf w _=>?_) k
 simp [execOp,hf.ev h1,hf.ev h2,Instr.indexAt,asIntOf,run_underlying hu,hs w,hlt,Instr.sureAddr]
theorem dE {k:Nat}:∀ (cs:List (List Value)) (n:Nat),(∀ c∈cs,c.length=k)→(cs.drop n).flatten=cs.flatten.drop (n*k)
 | cs,0,_=>by simp
 | [],n+1,_=>by simp
 | c::cs,n+1,h=>by
  have hc:=h c Di
  have e1:c.drop (n*k+k)=[]:=AbU Bm
  rw [List.drop_succ_cons,dE cs n fun d hd=>h d (by simp [hd]),AbW,AcN,AcE,List.drop_append,e1,AbA,hc,Nat.add_sub_cancel]
theorem dF {k:Nat}:∀ (cs:List (List Value)) (n:Nat),(∀ c∈cs,c.length=k)→(cs.take n).flatten=cs.flatten.take (n*k)
 | cs,0,_=>by simp
 | [],n+1,_=>by simp
 | c::cs,n+1,h=>by
  have hc:=h c Di
  have e1:c.take (n*k+k)=c:=Aab Bm
  rw [List.take_succ_cons,AbW,AbW,dF cs n fun d hd=>h d (by simp [hd]),AcN,AcE,List.take_append,e1,hc,Nat.add_sub_cancel]
theorem Bi.sub {α:Type} {k:Nat} {R:Ah→List Value→α→Prop} {G:Ah} {v:Value} {a:List α} {l h:Nat} {cs:List (List Value)} (hh:h≤a.length) (hl:l≤h) (h2:Cw (R G) cs a) (h3:∀ c∈cs,c.length=k)
  (hv:Sl G v k (h-l) ((cs.flatten.drop (l*k)).take ((h-l)*k))):Bi k R G v ((a.drop l).take (h-l)):=by
 refine ⟨(cs.drop l).take (h-l),?_,(h2.drop l).take _,fun c hc=>h3 c (List.mem_of_mem_drop (List.mem_of_mem_take hc))⟩
 have hl2:((a.drop l).take (h-l)).length=h-l:=by rw [Aag,Abo];omega
 rw [hl2,dF _ _ fun c hc=>h3 c (List.mem_of_mem_drop hc),dE _ _ h3]
 exact hv
end
end Go.Ex
namespace Go.Ex
open Go Go.RowKit Go.ChangeShapes Go.WideShapes Go.ChangeAt
section
variable {H:Type} {enc:TypeId×Value→H} {P:Program}
theorem pQ {z:Int} (h:(Lit.int .u8 z).wf=true):∃ y:UInt8,z=(y.toNat:Int):=by
 have hx:0≤z∧z≤255:=by simpa [Lit.wf,IntKind.min,IntKind.max,IntKind.signed,IntKind.bits] using h
 exact ⟨UInt8.ofNat z.toNat,by rw [Aav];omega⟩
end
end Go.Ex
namespace Go.Ex
open Go Go.RowKit
def Bc {α:Type} [DecidableEq α] (k:α):List α→Nat
 | []=>0
 | x::l=>if x=k then 0 else Bc k l+1
theorem Wy {α:Type} [DecidableEq α] (k:α):∀ l:List α,Bc k l≤l.length
 | []=>AaR _
 | x::l=>by
  have:=Wy k l
  rw [Bc];split
  ·simp
  ·rw [AaZ];omega
theorem Cb {α:Type} [DecidableEq α] {k:α}:∀ {l:List α},Bc k l<l.length↔k∈l
 | []=>by simp [Bc]
 | x::l=>by
  have ih:=Cb (k:=k) (l:=l)
  rw [Bc]
  by_cases h:x=k
  ·rw [if_pos h];simp [h]
  ·rw [if_neg h,AaZ,AaV]
   constructor
   ·intro h2;exact .inr (ih.1 Bm)
   ·rintro (h2 | h2)
    ·exact absurd h2.symm h
    ·have:=ih.2 h2;omega
theorem Ec {α:Type} [DecidableEq α] {k:α}:∀ {l:List α} (h:Bc k l<l.length),l[Bc k l]=k
 | [],h=>by simp [Bc] at h
 | x::l,h=>by
  by_cases hx:x=k
  ·have:Bc k (x::l)=0:=by rw [Bc,if_pos hx]
   simp only [this];exact hx
  ·have h2:Bc k (x::l)=Bc k l+1:=by rw [Bc,if_neg hx]
   simp only [h2,List.getElem_cons_succ]
   exact Ec (by rw [h2,AaZ] at h;omega)
structure Hf {α:Type} (P:Program) (kt:TypeId) (enc:α→Value):Prop where
 inj:∀ a b,enc a=enc b→a=b
 check:∀ em a w,(Instr.checkKey em 10000 kt (enc a)).run P w=.ok () w
 find:∀ (a:α) (es:List MapEntry),(∀ e∈es,∃ b,e.key=enc b) →
  ((∀ w,(Instr.findKey kt (enc a) es).run P w=.ok none w)∧∀ e∈es,e.key≠enc a)∨∃ j,∃ e∈es,(∀ w,(Instr.findKey kt (enc a) es).run P w=.ok (some (j,e.val)) w)∧e.key=enc a
def Ir {α:Type} (enc:α→Value):Nat→List α→List MapEntry
 | _,[]=>[]
 | i,k::ks=>Lh (enc k) (.int .i64 (i:Int)) i::Ir enc (i+1) ks
def En {α:Type} (enc:α→Value) (ks:List α):List MapEntry:=Ir enc 0 ks
theorem Wa {α:Type} (enc:α→Value) (k:α):∀ (i:Nat) (ks:List α),Ir enc i (ks++[k])=Ir enc i ks++[Lh (enc k) (.int .i64 ((i+ks.length:Nat):Int)) (i+ks.length)]
 | i,[]=>by simp [Ir]
 | i,x::ks=>by rw [Abc,Ir,Wa enc k (i+1) ks,Ir,AaZ,show i+1+ks.length=i+(ks.length+1) by omega];rfl
theorem tK {α:Type} (enc:α→Value) (k:α) (ks:List α):En enc (ks++[k])=En enc ks++[Lh (enc k) (.int .i64 (ks.length:Int)) ks.length]:=by
 unfold En;rw [Wa,Abr]
theorem Zc {α:Type} {enc:α→Value}:∀ {i:Nat} {ks:List α} {e:MapEntry},e∈Ir enc i ks→∃ j,∃ h:j<ks.length,e=Lh (enc ks[j]) (.int .i64 ((i+j:Nat):Int)) (i+j)
 | i,[],e,h=>by cases h
 | i,k::ks,e,h=>by
  rcases AaV.1 h with rfl | h
  ·exact ⟨0,by simp,by simp⟩
  ·obtain ⟨j,hj,rfl⟩:=Zc h
   exact ⟨j+1,by simp;exact hj,by rw [show i+1+j=i+(j+1) by omega];simp⟩
theorem iR {α:Type} {enc:α→Value} {ks:List α} {e:MapEntry} (h:e∈En enc ks):∃ j,∃ h:j<ks.length,e=Lh (enc ks[j]) (.int .i64 (j:Int)) j:=by
 obtain ⟨j,hj,he⟩:=Zc h
 exact ⟨j,hj,by rw [he,Abr]⟩
theorem Zd {α:Type} {enc:α→Value}:∀ {i:Nat} {ks:List α} {j:Nat} (h:j<ks.length),Lh (enc ks[j]) (.int .i64 ((i+j:Nat):Int)) (i+j)∈Ir enc i ks
 | i,k::ks,0,h=>by simp [Ir]
 | i,k::ks,j+1,h=>by
  rw [Ir]
  refine AaG _ ?_
  have:=Zd (enc:=enc) (i:=i+1) (ks:=ks) (j:=j) iB
  rw [show i+1+j=i+(j+1) by omega] at this
  simpa using this
theorem Hf.has {α:Type} [DecidableEq α] {P:Program} {kt:TypeId} {enc:α→Value} (hk:Hf P kt enc) (a:α) (ks:List α) (hnd:ks.Nodup) :
  (¬ Bc a ks<ks.length∧∀ w,(Instr.findKey kt (enc a) (En enc ks)).run P w=.ok none w)∨(Bc a ks<ks.length∧∃ j,∀ w,(Instr.findKey kt (enc a) (En enc ks)).run P w=.ok (some (j,.int .i64 (Bc a ks:Int))) w):=by
 rcases hk.find a (En enc ks) (fun e he=>by obtain ⟨j,hj,rfl⟩:=iR he;exact ⟨_,rfl⟩) with ⟨h1,h2⟩ | ⟨j,e,he,h1,h2⟩
 ·left
  refine ⟨fun hp=>?_,h1⟩
  have:=Zd (enc:=enc) (i:=0) hp
  refine h2 _ this ?_
  show enc ks[Bc a ks]=enc a
  rw [Ec hp]
 ·right
  obtain ⟨i,hi,rfl⟩:=iR he
  have hia:ks[i]=a:=hk.inj _ _ h2
  have hp:Bc a ks<ks.length:=Cb.2 (by rw [← hia];exact AaD hi)
  refine ⟨hp,j,fun w=>?_⟩
  have:i=Bc a ks:=(List.getElem_inj hnd).1 (hia.trans (Ec hp).symm)
  rw [h1 w]
  show Result.ok (some (j,Value.int .i64 (i:Int))) w=_
  rw [this]
section
variable {x:Cx} {Q:Exit→Env→World→Prop} {E:Env} {d:Option Tmp} {ty:TypeId} {pos:String} {aft:Array Edge} {g:Option (Nat×Bool)} {c:Ctx} {G:Ah} {H:List Res}
theorem Fp {α:Type} [DecidableEq α] {enc:α→Value} {K:Value→Prop} {t kt et:TypeId} {m kx:Operand} {b clk:Nat} {ks:List α} {a:α} {z:Value} (i:Nat) (hi:H[i]?=some (.obj b (.map (En enc ks).toArray clk))) (hu:x.P.underlying t=some (.map kt et)) (hk:Hf x.P kt enc) (hz:∀ w,(zeroValue et).run x.P w=.ok z w) (hnd:ks.Nodup)
  (h1:ev E m=some (.map (some b))) (h2:ev E kx=some (enc a)) (kf:¬ Bc a ks<ks.length→K (.tuple #[z,.bool false])) (kt':Bc a ks<ks.length→K (.tuple #[.int .i64 (Bc a ks:Int),.bool true])):Y x (St c G H) ⟨d,.lookup t m kx true,ty,pos,aft,g⟩ E K:=by
 rcases hk.has a ks hnd with ⟨h3,h4⟩ | ⟨h3,j,h4⟩
 ·refine Du (v:=.tuple #[z,.bool false]) (fun a' ha w hw=>?_) (kf h3)
  have hb:w.heap[b]?=some (.map (En enc ks).toArray clk):=hw.hold _ (AaF hi)
  simp only [execOp,ha.ev h1,ha.ev h2]
  simp [Instr.lookup,run_underlying hu,MapKept.run_getObj_map hb,hk.check,h4,hz,Result.andThen]
 ·refine Du (v:=.tuple #[.int .i64 (Bc a ks:Int),.bool true]) (fun a' ha w hw=>?_) (kt' h3)
  have hb:w.heap[b]?=some (.map (En enc ks).toArray clk):=hw.hold _ (AaF hi)
  simp only [execOp,ha.ev h1,ha.ev h2]
  simp [Instr.lookup,run_underlying hu,MapKept.run_getObj_map hb,hk.check,h4,Result.andThen]
theorem iS {α:Type} [DecidableEq α] {enc:α→Value} {P:Program} {w:World} {t kt et:TypeId} {b:Nat} {ks:List α} {a:α} (hu:P.underlying t=some (.map kt et)) (hk:Hf P kt enc) (hnd:ks.Nodup) (hno:¬ Bc a ks<ks.length)
  (hb:w.heap[b]?=some (.map (En enc ks).toArray ks.length)):(Instr.mapUpdate t (.map (some b)) (enc a) (.int .i64 (ks.length:Int))).run P w=.ok () (w.putObj b (.map (En enc (ks++[a])).toArray (ks++[a]).length)):=by
 have hf:∀ w,(Instr.findKey kt (enc a) (En enc ks)).run P w=.ok none w:=by
  rcases hk.has a ks hnd with ⟨_,h4⟩ | ⟨h3,_⟩
  ·exact h4
  ·exact absurd h3 hno
 rw [tK,AaB,Aac]
 simp [Instr.mapUpdate,run_underlying hu,MapKept.run_getObj_map hb,hk.check,hf,MapKept.run_setObj_map _ hb,Result.andThen,World.putObj,Lh]
theorem Ks {α:Type} [DecidableEq α] {enc:α→Value} {K:Value→World→Prop} {w:World} {t kt et:TypeId} {m kx vx:Operand} {b:Nat} {ks:List α} {a:α} (hs:St c G (.obj b (.map (En enc ks).toArray ks.length)::H) w) (hu:x.P.underlying t=some (.map kt et)) (hk:Hf x.P kt enc) (hnd:ks.Nodup) (hno:¬ Bc a ks<ks.length)
  (h1:ev E m=some (.map (some b))) (h2:ev E kx=some (enc a)) (h3:ev E vx=some (.int .i64 (ks.length:Int)))
  (k:∀ w',St c G (.obj b (.map (En enc (ks++[a])).toArray (ks++[a]).length)::H) w'→K undef w'):S x ⟨d,.mapUpdate t m kx vx,ty,pos,aft,g⟩ Q K E w:=by
 have hb:w.heap[b]?=some (.map (En enc ks).toArray ks.length):=hs.hold (.obj b _) Di
 have hr:=iS (a:=a) hu hk hnd hno hb
 refine Ye rfl fun a' ha=>⟨w.putObj b (.map (En enc (ks++[a])).toArray (ks++[a]).length),?_,k _ (hs.write rfl rfl rfl Di (fun k _ hk=>World.putObj_heap_other hk) (World.putObj_heap_same (Dc hb)) (fun k hk=>.inl hk))⟩
 simp only [execOp,ha.ev h1,ha.ev h2,ha.ev h3]
 simp [hr]
theorem fC {α:Type} [DecidableEq α] {enc:α→Value} {K:Value→World→Prop} {w:World} {t kt et:TypeId} {m kx vx:Operand} {b:Nat} {ks:List α} {a:α} (hs:St c G (.obj b (.map (En enc ks).toArray ks.length)::H) w) (hu:x.P.underlying t=some (.map kt et)) (hk:Hf x.P kt enc) (hnd:ks.Nodup) (hno:¬ Bc a ks<ks.length)
  (h1:ev E m=some (.map (some b))) (h2:ev E kx=some (enc a)) (h3:ev E vx=some (.int .i64 (ks.length:Int)))
  (k:∀ w',St c G (.obj b (.map (En enc (ks++[a])).toArray (ks++[a]).length)::H) w'→K undef w'):S x ⟨d,.insert t m kx vx,ty,pos,aft,g⟩ Q K E w:=by
 have hb:w.heap[b]?=some (.map (En enc ks).toArray ks.length):=hs.hold (.obj b _) Di
 have hr:=iS (a:=a) hu hk hnd hno hb
 refine Ye rfl fun a' ha=>⟨w.putObj b (.map (En enc (ks++[a])).toArray (ks++[a]).length),?_,k _ (hs.write rfl rfl rfl Di (fun k _ hk=>World.putObj_heap_other hk) (World.putObj_heap_same (Dc hb)) (fun k hk=>.inl hk))⟩
 simp only [execOp,ha.ev h1,ha.ev h2,ha.ev h3]
 simp [hr]
end
def Ji (s:List UInt8):Value:=.string ⟨s.toArray⟩
theorem Hf.str {P:Program} {kt:TypeId} (h:P.underlying kt=some .string):Hf P kt Ji where
 inj a b h:=by
  injection h with h
  have h2:a.toArray=b.toArray:=congrArg ByteArray.data h
  simpa using h2
 check em a w:=MapKept.run_checkKey (k:=Ji a) h (by simp [MapKept.IsKey,Ji]) em 9999
 find a es hes:=by
  have hik:∀ e∈es,MapKept.IsKey .string e.key:=fun e he=>by obtain ⟨b,hb⟩:=hes e he;rw [hb];simp [MapKept.IsKey,Ji]
  rcases MapKept.findNow_spec (d:=.string) (k:=Ji a) (by simp [MapKept.IsKey,Ji]) es 0 hik with ⟨h1,h2⟩ | ⟨j,e,h1,h2,h3⟩
  ·exact .inl ⟨fun w=>MapKept.run_findKey h h1,h2⟩
  ·exact .inr ⟨0+j,e,AaF h2,fun w=>MapKept.run_findKey h h1,h3⟩
theorem Hf.asked {α:Type} [DecidableEq α] {P:Program} {kt:TypeId} {td:TypeDesc} {enc:α→Value} (hu:P.underlying kt=some td) (hinj:∀ a b,enc a=enc b→a=b) (hc:∀ em a w,(Instr.checkKey em 10000 kt (enc a)).run P w=.ok () w)
  (hn:∀ a b,Instr.sameNow td (enc a) (enc b)=none) (heq:∀ a b w,(Op.equal kt (enc a) (enc b)).run P w=.ok (decide (a=b)) w):Hf P kt enc where
 inj:=hinj
 check:=hc
 find a es hes:=by
  have ask:∀ (es:List MapEntry) (i:Nat),(∀ e∈es,∃ b,e.key=enc b) →
    ((∀ w,(Instr.findAsking kt (enc a) es i).run P w=.ok none w)∧∀ e∈es,e.key≠enc a)∨∃ j,∃ e∈es,(∀ w,(Instr.findAsking kt (enc a) es i).run P w=.ok (some (j,e.val)) w)∧e.key=enc a:=by
   intro es
   induction es with
   | nil=>intro i _;exact .inl ⟨fun w=>by simp [Instr.findAsking],by simp⟩
   | cons e es ih =>
    intro i hk
    obtain ⟨b,hb⟩:=hk e Di
    by_cases hab:a=b
    ·right
     refine ⟨i,e,by simp,fun w=>?_,by rw [hb,hab]⟩
     rw [Instr.findAsking,Sem.run_bind,hb,heq,decide_eq_true hab]
     simp
    ·have hne:e.key≠enc a:=fun he=>hab (hinj _ _ (he.symm.trans hb))
     rcases ih (i+1) (fun x hx=>hk x pB) with ⟨h1,h2⟩ | ⟨j,e',h1,h2,h3⟩
     ·left
      refine ⟨fun w=>?_,fun x hx=>?_⟩
      ·rw [Instr.findAsking,Sem.run_bind,hb,heq,decide_eq_false hab];simp [h1]
      ·rcases AaV.1 hx with rfl | hx
       ·exact hne
       ·exact h2 x hx
     ·right
      exact ⟨j,e',by simp [h1],fun w=>by rw [Instr.findAsking,Sem.run_bind,hb,heq,decide_eq_false hab];simp [h2],h3⟩
  cases es with
  | nil=>exact .inl ⟨fun w=>by simp [Instr.findKey,run_underlying hu,Instr.findNow],by simp⟩
  | cons e es =>
   obtain ⟨b,hb⟩:=hes e Di
   have h1:Instr.findNow td (enc a) (e::es) 0=none:=by rw [Instr.findNow,hb,hn]
   have hf:∀ w,(Instr.findKey kt (enc a) (e::es)).run P w=(Instr.findAsking kt (enc a) (e::es) 0).run P w:=fun w=>by
    simp only [Instr.findKey,Sem.run_bind,run_underlying hu,Result.andThen_ok,h1]
   simp only [hf]
   exact ask (e::es) 0 hes
section
variable {x:Cx} {E:Env} {d:Option Tmp} {ty:TypeId} {pos:String} {aft:Array Edge} {g:Option (Nat×Bool)} {c:Ctx} {G:Ah} {H:List Res}
theorem Cl {W:World→Prop} {K:Value→Prop} {o q:Operand} {t e:TypeId} {kd:IntKind} {n cap b k:Nat} {j:Int} (i:Nat) (hu:x.P.underlying t=some (.slice e)) (hs:∀ w,(sizeOf e).run x.P w=.ok k w)
  (h1:ev E o=some (.slice (some ⟨b,0,none⟩) n cap)) (h2:ev E q=some (.int kd j)) (hj:j=(i:Int)) (hlt:i<n)
  (kk:K (.pointer (some ⟨b,i*k,none⟩))):Y x W ⟨d,.indexAddr t o q,ty,pos,aft,g⟩ E K:=by
 subst hj
 refine Du (v:=.pointer (some ⟨b,i*k,none⟩)) (fun f hf w _=>?_) kk
 have ha:(⟨b,0,none⟩:Addr).add (i*k)=⟨b,i*k,none⟩:=by
  unfold Addr.add;split
  ·rename_i h0;simp [h0]
  ·simp
 simp [execOp,hf.ev h1,hf.ev h2,Instr.indexAt,asIntOf,run_underlying hu,hs w,hlt]
 exact ha
theorem Ge {K:Value→Prop} {o:Operand} {t b i e n cap k:Nat} {xs vs:List Value} (h:Nat) (hi:H[h]?=some (.row e k (.slice (some ⟨b,0,none⟩) n cap) n xs)) (hA:∀ w,(isAgg t).run x.P w=.ok true w) (hS:∀ w,(sizeOf t).run x.P w=.ok k w)
  (ho:ev E o=some (.pointer (some ⟨b,i*k,none⟩))) (hn:i<n) (hv:(xs.drop (i*k)).take k=vs) (hl:vs.length=k) (kk:K (.agg vs.toArray)):Y x (St c G H) ⟨d,.load t o,ty,pos,aft,g⟩ E K:=by
 refine Du (v:=.agg vs.toArray) (fun f hf w hw=>?_) kk
 have hown:w.ownsRow 0 e k (.slice (some ⟨b,0,none⟩) n cap) n xs:=hw.hold _ (AaF hi)
 rcases hown.2 with ⟨h0,_⟩ | ⟨g',cp,cur,h0,_,hh,hnc,_,hsz,htk⟩
 ·cases h0
 injection h0 with h1' h2' h3'
 injection h1' with h1'
 injection h1' with h1'
 subst h1' h3'
 have hnk:i*k+k≤n*k:=by rw [← AcK];exact AbL _ hn
 have hr:(loadVar t ⟨b,i*k,none⟩).run x.P w=.ok (.agg vs.toArray) w:=by
  refine Hd (hA w) (hS w) hl fun j u hj=>?_
  have hjk:j<k:=by
   have:=(AbN.1 hj).1
   omega
  have hadd:(⟨b,i*k,none⟩:Addr).add j=⟨b,i*k+j,none⟩:=by
   unfold Addr.add;split
   ·rename_i h0;simp [h0]
   ·rfl
  rw [hadd]
  rw [← hv,AbJ hjk,List.getElem?_drop,← htk,AbJ Bm,Array.getElem?_toList] at hj
  simp [World.cell?,hh,hj]
 simp [execOp,hf.ev ho,Instr.loadAt,Instr.sureAddr,hr]
end
section
variable {x:Cx} {Q:Exit→Env→World→Prop} {E:Env} {K:Value→World→Prop} {w:World} {d:Option Tmp} {ty:TypeId} {pos:String} {aft:Array Edge} {g:Option (Nat×Bool)} {c:Ctx} {G:Ah} {H:List Res}
theorem Gw {o p:Operand} {t b i e n cap k:Nat} {xs vs:List Value} (hs:St c G (.row e k (.slice (some ⟨b,0,none⟩) n cap) n xs::H) w) (hS:∀ w,(sizeOf t).run x.P w=.ok k w) (h1:ev E o=some (.pointer (some ⟨b,i*k,none⟩))) (h2:ev E p=some (.agg vs.toArray))
  (hl:vs.length=k) (hone:vs.all (·.oneCell')=true) (hi:i<n) (kk:∀ w',St c G (.row e k (.slice (some ⟨b,0,none⟩) n cap) n (xs.take (i*k)++vs++xs.drop (i*k+k))::H) w'→K undef w'):S x ⟨d,.store t o p,ty,pos,aft,g⟩ Q K E w:=by
 have hown:w.ownsRow 0 e k (.slice (some ⟨b,0,none⟩) n cap) n xs:=hs.hold (.row e k _ n xs) Di
 rcases hown.2 with ⟨h,_⟩ | ⟨g',cp,cur,h,h0,hh,hnc,hcm,hsz,htk⟩
 ·cases h
 injection h with h1' h2' h3'
 injection h1' with h1'
 injection h1' with h1'
 subst h1' h3'
 have hnk:i*k+k≤n*k:=by rw [← AcK];exact AbL _ hi
 have hck:n*k≤cap*k:=AbL _ hnc
 have hb:St c G (.blk b e cur.toList::H) w:=hs.write rfl rfl rfl (AaR _) (fun _ _ _=>rfl) (by simpa [Res.holds] using hh) (fun k hk=>.inl (by have:k=b:=hk;simp [Res.foot,Value.ownBlock,this]))
 have hcl:i*k+k≤cur.toList.length:=by rw [Abe];omega
 refine Lm hb hS h1 h2 hl hone hcl rfl fun w' hs'=>kk w' ?_
 have hh':w'.heap[b]?=some (.cells (cur.toList.take (i*k)++vs++cur.toList.drop (i*k+k)).toArray e (0,0)):=hs'.hold (.blk b e _) Di
 have htk2:(cur.toList.take (i*k)++vs++cur.toList.drop (i*k+k)).take (n*k)=xs.take (i*k)++vs++xs.drop (i*k+k):=by
  have e1:(cur.toList.take (i*k)).length=i*k:=by rw [Aag];omega
  have e2:(cur.toList.take (i*k)).take (n*k)=cur.toList.take (i*k):=Aab Bm
  have e3:vs.take (n*k-i*k)=vs:=Aab Bm
  have e4:(cur.toList.take (n*k)).take (i*k)=cur.toList.take (i*k):=by rw [List.take_take,Nat.min_eq_left Bm]
  rw [← htk,List.take_append,List.take_append,AaB,e1,hl,e2,e3,e4,List.drop_take]
 have hlen:(cur.toList.take (i*k)++vs++cur.toList.drop (i*k+k)).length=cap*k:=by
  simp only [AaB,Aag,Abo,Abe,hl];omega
 refine hs'.write rfl rfl rfl (AaR _) (fun _ _ _=>rfl) ⟨by have h:=hown.1;simp only [AaB,Aag,Abo,hl];omega,.inr ⟨b,cap,_,rfl,h0,hh',hnc,hcm,by simpa using hlen,by simpa using htk2⟩⟩ (fun k hk=>.inl (by
  have h9:b=k:=by simpa [Res.foot,Value.ownBlock] using hk
  exact h9.symm))
end
theorem Jj {P:Program} {w:World} (d:Nat) {e:TypeId} {k:IntKind} (he:P.underlying e=some (.int k)) (a b:Int):(Op.equalIn (d+1) e (.int k a) (.int k b)).run P w=.ok (decide (a=b)) w:=by
 rw [run_equalIn_int w d e _ _ _ _ he]
 congr 1
theorem Uf {P:Program} {w:World} (d:Nat) {t e:TypeId} {k:IntKind} (ht:P.underlying t=some (.array 2 e)) (hS:∀ w,(sizeOf e).run P w=.ok 1 w) (hA:∀ w,(isAgg e).run P w=.ok false w) (he:P.underlying e=some (.int k)) (a0 a1 b0 b1:Int) :
  (Op.equalIn (d+2) t (.agg #[.int k a0,.int k a1]) (.agg #[.int k b0,.int k b1])).run P w=.ok (decide (a0=b0) && decide (a1=b1)) w:=by
 have hp:∀ (c0 c1:Int) (i:Nat) (v:Value),[Value.int k c0,.int k c1][i]?=some v→∀ w,(part e #[.int k c0,.int k c1] i).run P w=.ok v w:=fun c0 c1 i v h w=>On hA iB
 have q0:=fun w=>Jj (P:=P) (w:=w) d he a0 b0;have q1:=fun w=>Jj (P:=P) (w:=w) d he a1 b1
 have e0:=hp a0 a1 0 _ rfl;have e1:=hp a0 a1 1 _ rfl
 have k0:=hp b0 b1 0 _ rfl;have k1:=hp b0 b1 1 _ rfl
 rw [Op.equalIn]
 simp only [Sem.run_bind,run_underlying ht,Result.andThen_ok,hS,Std.Legacy.Range.forIn_eq_forIn_range',Std.Legacy.Range.size]
 rw [show List.range' 0 ((2-0+1-1) / 1)=[0,1] from rfl]
 generalize decide (a0=b0)=r0 at *
 generalize decide (a1=b1)=r1 at *
 simp only [List.forIn_cons,List.forIn_nil,Sem.run_bind,Nat.zero_mul,AcE,Abf,e0,e1,k0,k1,q0,q1,Result.andThen_ok]
 cases r0<;>simp only [AcP,AcQ,AbK,if_true,if_false,Sem.run_pure,Result.andThen_ok,Bool.false_and,AcF]
 cases r1<;>simp only [AcP,AcQ,AbK,if_true,if_false,Sem.run_pure,Result.andThen_ok,Sem.run_bind,e1,k1,q1]
theorem Ke {P:Program} {w:World} (em:Bool) (d:Nat) {e:TypeId} {k:IntKind} (he:P.underlying e=some (.int k)) (a:Int):(Instr.checkKey em (d+1) e (.int k a)).run P w=.ok () w:=by
 rw [Instr.checkKey];simp [run_underlying he]
theorem Zh {P:Program} {w:World} (em:Bool) (d:Nat) {t e:TypeId} {k:IntKind} (ht:P.underlying t=some (.array 2 e)) (hS:∀ w,(sizeOf e).run P w=.ok 1 w) (hA:∀ w,(isAgg e).run P w=.ok false w) (he:P.underlying e=some (.int k)) (a0 a1:Int) :
  (Instr.checkKey em (d+2) t (.agg #[.int k a0,.int k a1])).run P w=.ok () w:=by
 have hp:∀ (c0 c1:Int) (i:Nat) (v:Value),[Value.int k c0,.int k c1][i]?=some v→∀ w,(part e #[.int k c0,.int k c1] i).run P w=.ok v w:=fun c0 c1 i v h w=>On hA iB
 have e0:=hp a0 a1 0 _ rfl;have e1:=hp a0 a1 1 _ rfl
 have c0:=fun w=>Ke (P:=P) (w:=w) em d he a0;have c1:=fun w=>Ke (P:=P) (w:=w) em d he a1
 rw [Instr.checkKey]
 simp only [Sem.run_bind,run_underlying ht,Result.andThen_ok,hS,Std.Legacy.Range.forIn_eq_forIn_range',Std.Legacy.Range.size]
 rw [show List.range' 0 ((2-0+1-1) / 1)=[0,1] from rfl]
 simp only [List.forIn_cons,List.forIn_nil,Sem.run_bind,Nat.zero_mul,AcE,Abf,e0,e1,c0,c1,Result.andThen_ok,hS,Sem.run_pure]
def Gx (p:Nat×Nat):Value:=.agg #[.int .i64 (p.1:Int),.int .i64 (p.2:Int)]
theorem Hf.pair {P:Program} {t e:TypeId} (ht:P.underlying t=some (.array 2 e)) (hS:∀ w,(sizeOf e).run P w=.ok 1 w) (hA:∀ w,(isAgg e).run P w=.ok false w) (he:P.underlying e=some (.int .i64)):Hf P t Gx:=by
 refine Hf.asked ht ?_ ?_ ?_ ?_
 ·rintro ⟨a,b⟩ ⟨c,d⟩ h
  simp only [Gx,Value.agg.injEq] at h
  simp at h
  obtain ⟨h1,h2⟩:=h
  obtain rfl:a=c:=by omega
  obtain rfl:b=d:=by omega
  rfl
 ·rintro em ⟨a,b⟩ w
  exact Zh em 9998 ht hS hA he _ _
 ·rintro ⟨a,b⟩ ⟨c,d⟩;rfl
 ·rintro ⟨a,b⟩ ⟨c,d⟩ w
  show (Op.equalIn (9998+2) t _ _).run P w=_
  rw [Gx,Gx,Uf 9998 ht hS hA he]
  congr 1
  rw [AbG];simp only [Aah,decide_eq_true_eq,Prod.mk.injEq];omega
theorem tL {P:Program} {w:World} (d:Nat) {t e:TypeId} {k:IntKind} (ht:P.underlying t=some (.array 1 e)) (hS:∀ w,(sizeOf e).run P w=.ok 1 w) (hA:∀ w,(isAgg e).run P w=.ok false w) (he:P.underlying e=some (.int k)) (a0 b0:Int) :
  (Op.equalIn (d+2) t (.agg #[.int k a0]) (.agg #[.int k b0])).run P w=.ok (decide (a0=b0)) w:=by
 have hp:∀ (c0:Int) w,(part e #[Value.int k c0] 0).run P w=.ok (.int k c0) w:=fun c0 w=>On hA rfl
 have q0:=fun w=>Jj (P:=P) (w:=w) d he a0 b0
 have e0:=hp a0;have k0:=hp b0
 rw [Op.equalIn]
 simp only [Sem.run_bind,run_underlying ht,Result.andThen_ok,hS,Std.Legacy.Range.forIn_eq_forIn_range',Std.Legacy.Range.size]
 rw [show List.range' 0 ((1-0+1-1) / 1)=[0] from rfl]
 generalize decide (a0=b0)=r0 at *
 simp only [List.forIn_cons,List.forIn_nil,Sem.run_bind,Nat.zero_mul,e0,k0,q0,Result.andThen_ok]
 cases r0<;>simp only [AcP,AcQ,AbK,if_true,if_false,Sem.run_pure,Result.andThen_ok]
theorem mT {P:Program} {w:World} (em:Bool) (d:Nat) {t e:TypeId} {k:IntKind} (ht:P.underlying t=some (.array 1 e)) (hS:∀ w,(sizeOf e).run P w=.ok 1 w) (hA:∀ w,(isAgg e).run P w=.ok false w) (he:P.underlying e=some (.int k)) (a0:Int) :
  (Instr.checkKey em (d+2) t (.agg #[.int k a0])).run P w=.ok () w:=by
 have e0:∀ w,(part e #[Value.int k a0] 0).run P w=.ok (.int k a0) w:=fun w=>On hA rfl
 have c0:=fun w=>Ke (P:=P) (w:=w) em d he a0
 rw [Instr.checkKey]
 simp only [Sem.run_bind,run_underlying ht,Result.andThen_ok,hS,Std.Legacy.Range.forIn_eq_forIn_range',Std.Legacy.Range.size]
 rw [show List.range' 0 ((1-0+1-1) / 1)=[0] from rfl]
 simp only [List.forIn_cons,List.forIn_nil,Sem.run_bind,Nat.zero_mul,e0,c0,Result.andThen_ok,hS,Sem.run_pure]
section
variable {x:Cx} {W:World→Prop} {E:Env} {K:Value→Prop} {d:Option Tmp} {ty:TypeId} {pos:String} {aft:Array Edge} {g:Option (Nat×Bool)} {o q:Operand} {xt yt:TypeId}
theorem Y_eqlWS {e:TypeId} {a b:List Nat} (ht:x.P.underlying xt=some (.array 4 e)) (hS:∀ w,(sizeOf e).run x.P w=.ok 1 w) (hA:∀ w,(isAgg e).run x.P w=.ok false w) (he:x.P.underlying e=some (.int .u64)) (hg:x.P.eqGuardType x.P.depth xt=false)
  (h1:ev E o=some (.agg (a.map Bb).toArray)) (h2:ev E q=some (.agg (b.map Bb).toArray)) (hx:a.length=4) (hy:b.length=4) (hxw:∀ x∈a,x<W64) (hyw:∀ x∈b,x<W64) (kt:a=b→K (.bool true)) (kf:¬ a=b→K (.bool false)):Y x W ⟨d,.binOp .eql xt o q yt,ty,pos,aft,g⟩ E K :=
 Du (v:=.bool (decide (a=b))) (fun f hf w _=>by
  have h':(binOp .eql xt (.agg (a.map Bb).toArray) (.agg (b.map Bb).toArray)).run x.P w=.ok (.bool (decide (a=b))) w:=by
   rw [run_eql_struct,Zb 9998 ht hS hA he hx hy hxw hyw];rfl
  simp only [execOp,hf.ev h1,hf.ev h2,Sem.run_bind,run_eqGuard_agg w _ _ _ _ _ _ hg,Result.andThen_ok,h',Sem.run_pure]) (by
  by_cases h:a=b
  ·simpa [h] using kt h
  ·simpa [h] using kf h)
end
theorem Hf.state {α:Type} [DecidableEq α] {P:Program} {t e ta u:TypeId} {f1 f2 f3:Field} {p q s:α→Nat} (hinj:∀ a b,p a=p b→q a=q b→s a=s b→a=b) (ht:P.underlying t=some (.struct #[f1,f2,f3])) (hst:P.stoodInHeld t=false)
  (n1 : f1.name ≠ "_") (n2 : f2.name ≠ "_") (n3 : f3.name ≠ "_") (t1 : f1.type = e) (t2 : f2.type = e) (t3 : f3.type = ta) (o1 : f1.offset = 0) (o2 : f2.offset = 1) (o3 : f3.offset = 2)
  (hA:∀ w,(isAgg e).run P w=.ok false w) (he:P.underlying e=some (.int .i64)) (hta:P.underlying ta=some (.array 1 u)) (hSa:∀ w,(sizeOf ta).run P w=.ok 1 w) (hAa:∀ w,(isAgg ta).run P w=.ok true w)
  (hSu:∀ w,(sizeOf u).run P w=.ok 1 w) (hAu:∀ w,(isAgg u).run P w=.ok false w) (hu:P.underlying u=some (.int .u64)):Hf P t fun a:α=>Value.agg #[.int .i64 (p a:Int),.int .i64 (q a:Int),.int .u64 (s a:Int)]:=by
 have hp0:∀ (a b c:Int) w,(part e #[Value.int .i64 a,.int .i64 b,.int .u64 c] 0).run P w=.ok (.int .i64 a) w:=fun a b c w=>On hA rfl
 have hp1:∀ (a b c:Int) w,(part e #[Value.int .i64 a,.int .i64 b,.int .u64 c] 1).run P w=.ok (.int .i64 b) w:=fun a b c w=>On hA rfl
 have hp2:∀ (a b c:Int) w,(part ta #[Value.int .i64 a,.int .i64 b,.int .u64 c] 2).run P w=.ok (.agg #[.int .u64 c]) w:=fun a b c w=>by
  simp only [part,Sem.run_bind,hAa,Result.andThen_ok,if_true,hSa,Sem.run_pure];rfl
 refine Hf.asked ht ?_ ?_ ?_ ?_
 ·intro a b h
  simp only [Value.agg.injEq] at h
  simp at h
  exact hinj a b Bm Bm Bm
 ·intro em a w
  show (Instr.checkKey em (9999+1) t _).run P w=_
  rw [Instr.checkKey]
  simp only [Sem.run_bind,run_underlying ht,Result.andThen_ok]
  rw [← Array.forIn_toList]
  simp only [List.forIn_cons,List.forIn_nil,Sem.run_bind,n1,n2,n3,t1,t2,t3,o1,o2,o3,hp0,hp1,hp2,Result.andThen_ok,Sem.run_pure,ne_eq,not_false_eq_true,if_true,Ke em 9998 he,mT em 9997 hta hSu hAu hu]
 ·intro a b;rfl
 ·intro a b w
  have hf:P.fieldsOf t=#[f1,f2,f3]:=by simp [Program.fieldsOf,ht]
  show (Op.equalIn (9999+1) t _ _).run P w=_
  rw [run_equalIn_struct w 9999 t _ _ (by rw [hf];exact ht) hst,hf]
  have hd:decide (a=b)=(decide ((p a:Int)=p b) && (decide ((q a:Int)=q b) && decide ((s a:Int)=s b))):=by
   rw [AbG];simp only [Aah,decide_eq_true_eq]
   exact ⟨fun h=>by subst h;simp,fun h=>hinj a b Bm Bm Bm⟩
  rw [hd]
  have q0:=fun w=>Jj (P:=P) (w:=w) 9998 he (p a) (p b)
  have q1:=fun w=>Jj (P:=P) (w:=w) 9998 he (q a) (q b)
  have q2:=fun w=>tL (P:=P) (w:=w) 9997 hta hSu hAu hu (s a) (s b)
  generalize decide ((p a:Int)=p b)=r0 at *
  generalize decide ((q a:Int)=q b)=r1 at *
  generalize decide ((s a:Int)=s b)=r2 at *
  simp only [Op.eqFields,n1,n2,n3,t1,t2,t3,o1,o2,o3,ne_eq,not_false_eq_true,if_true,Sem.run_bind,hp0,hp1,hp2,Result.andThen_ok,q0,q1,q2]
  cases r0<;>simp only [AcP,AcQ,AbK,if_true,if_false,Sem.run_pure,Result.andThen_ok,Bool.false_and,AcF,Sem.run_bind,hp0,hp1,hp2,q0,q1,q2,Sem.run_ite]
  cases r1<;>simp only [AcP,AcQ,AbK,if_true,if_false,Sem.run_pure,Result.andThen_ok,Bool.false_and,AcF,Sem.run_bind,hp0,hp1,hp2,q0,q1,q2,Sem.run_ite]
  cases r2<;>simp only [AcP,AcQ,AbK,if_true,if_false,Sem.run_pure,Result.andThen_ok]
section
variable {x:Cx} {ops:Array Oper} {pre:List Nat} {W:World→Prop} {Q:Exit→Env→World→Prop} {E:Env} {w:World}
theorem pR (i j k':Nat) {t t' t'':Tmp} {op op' op'':Op} {ty ty' ty'':TypeId} {pos pos' pos'':String} {aft aft' aft'':Array Edge} {g g' g'':Option (Nat×Bool)} {D:List Deferred} {L:List (Nat×Value)} {fuel:Nat} {listed:Array Bool} (hi:ops[i]?=some ⟨some t,op,ty,pos,aft,g⟩) (hj:ops[j]?=some ⟨some t',op',ty',pos',aft',g'⟩) (hk:ops[k']?=some ⟨some t'',op'',ty'',pos'',aft'',g''⟩)
  (hr:(Region.ready .any ops listed == [i,j,k'])=true) (hg:gd ops ⟨some t,op,ty,pos,aft,g⟩ ⟨D,L⟩=some true) (hg':gd ops ⟨some t',op',ty',pos',aft',g'⟩ ⟨D,L⟩=some true) (hg'':gd ops ⟨some t'',op'',ty'',pos'',aft'',g''⟩ ⟨D,L⟩=some true)
  (h:S x ⟨some t,op,ty,pos,aft,g⟩ (np Q) (fun v w'=>W w'∧A x ops pre W Q fuel (listed.setIfInBounds i true) ⟨D,(t,v)::L⟩ w') ⟨D,L⟩ w)
  (h':S x ⟨some t',op',ty',pos',aft',g'⟩ (np Q) (fun v w'=>W w'∧A x ops pre W Q fuel (listed.setIfInBounds j true) ⟨D,(t',v)::L⟩ w') ⟨D,L⟩ w)
  (h'':S x ⟨some t'',op'',ty'',pos'',aft'',g''⟩ (np Q) (fun v w'=>W w'∧A x ops pre W Q fuel (listed.setIfInBounds k' true) ⟨D,(t'',v)::L⟩ w') ⟨D,L⟩ w):A x ops pre W Q (fuel+1) listed ⟨D,L⟩ w :=
 pF [i,j,k'] (by simpa using hr) fun k hk2=>by
  rcases (by simpa using hk2:k=i∨k=j∨k=k') with rfl | rfl | rfl
  ·exact ⟨_,hi,hg,Kl h fun _ _ hv=>⟨fun _=>hv.1,hv.2⟩⟩
  ·exact ⟨_,hj,hg',Kl h' fun _ _ hv=>⟨fun _=>hv.1,hv.2⟩⟩
  ·exact ⟨_,hk,hg'',Kl h'' fun _ _ hv=>⟨fun _=>hv.1,hv.2⟩⟩
end
theorem St.perm {c:Ctx} {G:Ah} {H H':List Res} {w:World} (h:St c G H w) (hp:H.Perm H'):St c G H' w:=by
 refine ⟨h.os,h.tape,h.output,h.size,h.old,h.le,h.new,h.ghost,fun s hs=>h.hold s (hp.mem_iff.2 hs),fun s hs=>h.off s (hp.mem_iff.2 hs),?_,h.drn⟩
 exact (hp.pairwise_iff (fun {a b} hab k hk hk'=>hab k hk' hk)).1 h.apart
theorem Ev {x:Cx} {o:Oper} {Q:Exit→Env→World→Prop} {K:Value→World→Prop} {w:World} {D:List Deferred} {M:List (Nat×Value)} (L:List (Nat×Value)) (hs:Jq L M) (h:S x o Q K ⟨D,L⟩ w):S x o Q K ⟨D,M⟩ w :=
 fun a ha=>h a (ha.sub (E:=⟨D,M⟩) hs)
theorem pS {x:Cx} {ops:Array Oper} {pre:List Nat} {W:World→Prop} {Q:Exit→Env→World→Prop} {w:World} {fuel:Nat} {listed:Array Bool} {D:List Deferred} {M:List (Nat×Value)} (L:List (Nat×Value)) (hs:Jq L M) (h:A x ops pre W Q fuel listed ⟨D,L⟩ w):A x ops pre W Q fuel listed ⟨D,M⟩ w :=
 fun h1 h2 h3 h4 a ha=>h h1 h2 h3 h4 a (ha.sub (E:=⟨D,M⟩) hs)
def marks (n:Nat) (p:Nat→Bool):Array Bool:=((List.range n).map p).toArray
theorem Zi (n:Nat) (p:Nat→Bool):(marks n p).size=n:=by simp [marks]
theorem Kt {n:Nat} {p:Nat→Bool} {j:Nat} {b:Bool} (h:j<n):(marks n p).getD j b=p j:=by
 simp [marks,Array.getD_eq_getD_getElem?,h]
theorem dG (n i:Nat) (p:Nat→Bool):(marks n p).setIfInBounds i true=marks n fun j=>p j || Nat.beq j i:=by
 apply Array.ext
 ·simp [marks]
 ·intro j h1 h2
  rw [Zi] at h2
  rw [Array.getElem_setIfInBounds (by rw [Zi];exact h2)]
  simp only [marks,List.getElem_toArray,Aaa,Abs]
  by_cases h:i=j
  ·subst h;simp
  ·rw [if_neg h,show Nat.beq j i=false from by
    cases hb:Nat.beq j i
    ·rfl
    ·exact absurd (Aam hb).symm h]
   simp
theorem iT {n:Nat} {p q:Nat→Bool} (h:∀ j,j<n→p j=q j):marks n p=marks n q:=by
 unfold marks
 congr 1
 exact AbX fun j hj=>h j (Aae.1 hj)
theorem mU (n:Nat):Array.replicate n false=marks n fun _=>false:=by
 apply Array.ext
 ·simp [marks]
 ·intro j h1 h2;simp [marks]
structure Js where
 i:Nat
 t:Tmp
 R:Ah→Value→Prop
 res:Value→List Res
def Ug (ops:Array Oper) (i:Nat):List Nat :=
 match ops[i]? with
 | none=>[]
 | some o=>(o.after.toList.filter fun e=>Region.binds .any e).map (·.on)
def Zj (l:List Nat) (i:Nat):Bool:=l.any fun j=>Nat.beq j i
theorem Ku {l:List Nat} {i:Nat}:Zj l i=true↔i∈l:=by
 unfold Zj
 rw [List.any_eq_true]
 constructor
 ·rintro ⟨j,hj,h⟩;rw [← Aam h];exact hj
 ·intro h;exact ⟨i,h,Nat.beq_refl i⟩
def tM (ops:Array Oper):List Nat→List Nat→Bool
 | _,[]=>true
 | seen,i::l=>(Ug ops i).all (Zj seen) && (!Zj seen i && tM ops (i::seen) l)
def Zo:List Nat→List Nat→Bool
 | _,[]=>true
 | seen,i::l=>!Zj seen i && Zo (i::seen) l
def mV (ops:Array Oper) (idx ts base:List Nat):Bool :=
 tM ops [] idx && (Zo [] base && (Zo base ts && ((List.range ops.size).all fun j=>Zj idx j || idx.all fun i=>anc ops ops.size j i)))
theorem dH {ops:Array Oper} {p:Nat→Bool}:∀ (idx seen:List Nat),tM ops seen idx=true→(∀ i∈seen,p i=true)→(∃ i∈idx,p i=false)→∃ i∈idx,p i=false∧∀ d∈Ug ops i,p d=true
 | [],_,_,_,⟨_,h,_⟩=>by cases h
 | i::l,seen,ht,hs,⟨j,hj,hp⟩=>by
  simp only [tM,Aah] at ht
  cases hi:p i with
  | false=>exact ⟨i,by simp,hi,fun d hd=>hs d (Ku.1 (AbD.1 ht.1 d hd))⟩
  | true =>
   obtain ⟨k,hk,h⟩:=dH l (i::seen) ht.2.2 (fun k hk=>by
    rcases AaV.1 hk with rfl | hk
    ·exact hi
    ·exact hs k hk) ⟨j,by
     rcases AaV.1 hj with rfl | hj
     ·rw [hi] at hp;cases hp
     ·exact hj,hp⟩
   exact ⟨k,AaG _ hk,h⟩
theorem Zp {ops:Array Oper}:∀ (idx seen:List Nat),tM ops seen idx=true→idx.Nodup∧∀ i∈idx,i∉seen
 | [],_,_=>⟨Aaz,fun _ h=>by cases h⟩
 | i::l,seen,ht=>by
  simp only [tM,Aah,Bool.not_eq_true'] at ht
  obtain ⟨h1,h2⟩:=Zp l (i::seen) ht.2.2
  refine ⟨AbT.2 ⟨fun h=>h2 i h Di,h1⟩,fun j hj hs=>?_⟩
  rcases AaV.1 hj with rfl | hj
  ·rw [Ku.2 hs] at ht;cases ht.2.1
  ·exact h2 j hj (AaG _ hs)
theorem Oo:∀ (ts seen:List Nat),Zo seen ts=true→ts.Nodup∧∀ i∈ts,i∉seen
 | [],_,_=>⟨Aaz,fun _ h=>by cases h⟩
 | i::l,seen,ht=>by
  simp only [Zo,Aah,Bool.not_eq_true'] at ht
  obtain ⟨h1,h2⟩:=Oo l (i::seen) ht.2
  refine ⟨AbT.2 ⟨fun h=>h2 i h Di,h1⟩,fun j hj hs=>?_⟩
  rcases AaV.1 hj with rfl | hj
  ·rw [Ku.2 hs] at ht;cases ht.1
  ·exact h2 j hj (AaG _ hs)
theorem Zu {t:Tmp} {v:Value} {M:List (Nat×Value)}:∀ {L:List (Nat×Value)},Jq L M→t∉L.map Prod.fst→Jq L ((t,v)::M)
 | [],_,_=>trivial
 | (k,u)::L,⟨h1,h2⟩,h=>by
  simp only [Aar,AaV,not_or] at h
  refine ⟨?_,Zu h2 h.2⟩
  unfold Em
  rw [show Nat.beq t k=false from by
   cases hb:Nat.beq t k
   ·rfl
   ·exact absurd (Aam hb) h.1]
  exact h1
def Ff (cs:List Js) (p:Nat→Bool) (vals:Nat→Value):List Res:=cs.flatMap fun k=>bif p k.i then k.res (vals k.i) else []
theorem Oq {p q:Nat→Bool} {vals ws:Nat→Value}:∀ {cs:List Js},(∀ k∈cs,p k.i=q k.i∧vals k.i=ws k.i)→Ff cs p vals=Ff cs q ws
 | [],_=>rfl
 | k::cs,h=>by
  have h1:=h k Di
  have h2:=Oq (cs:=cs) fun j hj=>h j (AaG _ hj)
  unfold Ff at h2 ⊢
  rw [Aan,Aan,h2,h1.1,h1.2]
theorem dI {p:Nat→Bool} {vals:Nat→Value} {v:Value} {k:Js}:∀ {cs:List Js},(cs.map (·.i)).Nodup→k∈cs→p k.i=false →
  (k.res v++Ff cs p vals).Perm (Ff cs (fun j=>p j || Nat.beq j k.i) fun j=>if j=k.i then v else vals j)
 | [],_,h,_=>by cases h
 | c::cs,hn,h,hp=>by
  have beqF:∀ {a b:Nat},a≠b→Nat.beq a b=false:=fun {a b} hab=>by
   cases hb:Nat.beq a b
   ·rfl
   ·exact absurd (Aam hb) hab
  rw [Aar,AbT] at hn
  rcases AaV.1 h with rfl | h
  ·have h2:Ff cs (fun j=>p j || Nat.beq j k.i) (fun j=>if j=k.i then v else vals j)=Ff cs p vals:=Oq fun j hj=>by
    have hne:j.i≠k.i:=fun e=>hn.1 (e▸Aal hj)
    exact ⟨by rw [beqF hne,Bool.or_false],by rw [if_neg hne]⟩
   have e1:Ff (k::cs) p vals=Ff cs p vals:=by unfold Ff;rw [Aan,hp];rfl
   have e2:Ff (k::cs) (fun j=>p j || Nat.beq j k.i) (fun j=>if j=k.i then v else vals j)=k.res v++Ff cs p vals:=by
    rw [← h2];unfold Ff;rw [Aan];simp only [show Nat.beq k.i k.i=true from Nat.beq_refl _,Bool.or_true,cond_true,if_true]
   rw [e1,e2]
  ·have hne:c.i≠k.i:=fun e=>hn.1 (e▸Aal h)
   have ih:=dI (v:=v) (vals:=vals) hn.2 h hp
   have e1:Ff (c::cs) p vals=(bif p c.i then c.res (vals c.i) else [])++Ff cs p vals:=by unfold Ff;rw [Aan]
   have e2:Ff (c::cs) (fun j=>p j || Nat.beq j k.i) (fun j=>if j=k.i then v else vals j)=(bif p c.i then c.res (vals c.i) else [])++Ff cs (fun j=>p j || Nat.beq j k.i) (fun j=>if j=k.i then v else vals j):=by
    unfold Ff;rw [Aan];simp only [beqF hne,Bool.or_false,if_neg hne]
   rw [e1,e2,← AaI]
   exact (Abd.append_right _).trans (by rw [AaI];exact ih.append_left _)
theorem iU {t u:Tmp} {v:Value} {L:List (Nat×Value)} (h:t≠u):Em ((t,v)::L) u=Em L u:=by
 rw [Em,show Nat.beq t u=false from by
  cases hb:Nat.beq t u
  ·rfl
  ·exact absurd (Aam hb) h,cond_false]
theorem iV {t:Tmp} {v:Value} {L:List (Nat×Value)}:Em ((t,v)::L) t=some v:=by unfold Em;rw [Nat.beq_refl];rfl
theorem pT:∀ {cs:List Js},(cs.map (·.t)).Nodup→∀ {a b:Js},a∈cs→b∈cs→a.t=b.t→a=b
 | [],_,_,_,h,_,_=>by cases h
 | c::cs,hn,a,b,ha,hb,e=>by
  rw [Aar,AbT] at hn
  have key:∀ {d:Js},d∈cs→d.t≠c.t:=fun {d} hd he=>hn.1 (by rw [← he];exact Aal (f:=fun k:Js=>k.t) hd)
  rcases AaV.1 ha with ha | ha<;>rcases AaV.1 hb with hb | hb
  ·rw [ha,hb]
  ·rw [ha] at e;exact absurd e.symm (key hb)
  ·rw [hb] at e;exact absurd e (key ha)
  ·exact pT hn.2 ha hb e
theorem pU:∀ {cs:List Js},(cs.map (·.i)).Nodup→∀ {a b:Js},a∈cs→b∈cs→a.i=b.i→a=b
 | [],_,_,_,h,_,_=>by cases h
 | c::cs,hn,a,b,ha,hb,e=>by
  rw [Aar,AbT] at hn
  have key:∀ {d:Js},d∈cs→d.i≠c.i:=fun {d} hd he=>hn.1 (by rw [← he];exact Aal (f:=fun k:Js=>k.i) hd)
  rcases AaV.1 ha with ha | ha<;>rcases AaV.1 hb with hb | hb
  ·rw [ha,hb]
  ·rw [ha] at e;exact absurd e.symm (key hb)
  ·rw [hb] at e;exact absurd e (key ha)
  ·exact pU hn.2 ha hb e
theorem wN {p:Nat→Bool} {m:Nat} {k:Js}:∀ {cs:List Js},(cs.map (·.i)).Nodup→k∈cs→p k.i=false→(cs.filter fun k=>!p k.i).length=m+1→(cs.filter fun j=>!(p j.i || Nat.beq j.i k.i)).length=m:=by
 intro cs hn hk hp hm
 have key:∀ {cs:List Js},(cs.map (·.i)).Nodup→k∈cs→(cs.filter fun j=>!(p j.i || Nat.beq j.i k.i)).length+1=(cs.filter fun k=>!p k.i).length:=fun {cs}=>by
  induction cs with
  | nil=>intro _ h;cases h
  | cons c cs ih =>
   intro hn h
   have beqF:∀ {a b:Nat},a≠b→Nat.beq a b=false:=fun {a b} hab=>by
    cases hb:Nat.beq a b
    ·rfl
    ·exact absurd (Aam hb) hab
   rw [Aar,AbT] at hn
   rcases AaV.1 h with rfl | h
   ·have e:(cs.filter fun j=>!(p j.i || Nat.beq j.i k.i))=cs.filter fun k=>!p k.i:=List.filter_congr fun j hj=>by
     rw [beqF (fun e=>hn.1 (by rw [← e];exact Aal (f:=fun k:Js=>k.i) hj)),Bool.or_false]
    rw [List.filter_cons_of_neg (by rw [show Nat.beq k.i k.i=true from Nat.beq_refl _,Bool.or_true];simp),List.filter_cons_of_pos (by rw [hp];rfl),e,AaZ]
   ·have ih:=ih hn.2 h
    have hb:Nat.beq c.i k.i=false:=beqF (fun e=>hn.1 (e▸Aal h))
    cases hc:p c.i
    ·rw [List.filter_cons_of_pos (by rw [hc,hb];rfl),List.filter_cons_of_pos (by rw [hc];rfl),AaZ,AaZ,ih]
    ·rw [List.filter_cons_of_neg (by rw [hc];simp),List.filter_cons_of_neg (by rw [hc];simp),ih]
 have:=key hn hk
 omega
def iW (x:Cx) (ops:Array Oper) (Q:Exit→Env→World→Prop) (c:Ctx) (Gs:Ah) (H0:List Res) (D:List Deferred) (L0:List (Nat×Value)) (cs:List Js) (k:Js):Prop :=
 ∃ o,ops[k.i]?=some o∧o.dst=some k.t∧o.guard=none∧∀ (G:Ah) (Hx:List Res) (L:List (Nat×Value)) (w:World),Gs.le G→St c G (H0++Hx) w→Jq L0 L →
  (∀ j∈cs,Zj (Ug ops k.i) j.i=true→∃ v,Em L j.t=some v∧j.R G v) →
  S x o (np Q) (fun v w'=>∃ G',G.le G'∧k.R G' v∧St c G' (k.res v++(H0++Hx)) w') ⟨D,L⟩ w
theorem A_calm {x:Cx} {ops:Array Oper} {Q:Exit→Env→World→Prop} {c:Ctx} {D:List Deferred} {L0:List (Nat×Value)} {H0:List Res} {G:Ah} {w:World} {fuel:Nat} (cs:List Js)
  (hok:mV ops (cs.map (·.i)) (cs.map (·.t)) (L0.map Prod.fst)=true)
  (hmono:∀ k∈cs,∀ (G G':Ah) (v:Value),G.le G'→k.R G v→k.R G' v)
  (hstep:∀ k∈cs,iW x ops Q c G H0 D L0 cs k) (hs:St c G H0 w)
  (hend:∀ (G':Ah) (vals:Nat→Value) (L:List (Nat×Value)) (w':World),G.le G'→St c G' (H0++Ff cs (fun _=>true) vals) w'→Jq L0 L→(∀ k∈cs,Em L k.t=some (vals k.i)∧k.R G' (vals k.i)) →
   A x ops [] (fun _=>True) Q fuel (marks ops.size fun j=>Zj (cs.map (·.i)) j) ⟨D,L⟩ w') :
  A x ops [] (fun _=>True) Q (fuel+cs.length) (Array.replicate ops.size false) ⟨D,L0⟩ w:=by
 simp only [mV,Aah] at hok
 obtain ⟨hto,hbs,hfr,htl⟩:=hok
 obtain ⟨hni,_⟩:=Zp _ _ hto
 obtain ⟨hnt,hnb⟩:=Oo _ _ hfr
 suffices hmain:∀ (m:Nat) (p:Nat→Bool) (G1:Ah) (vals:Nat→Value) (L:List (Nat×Value)) (w1:World),(cs.filter fun k=>!p k.i).length=m→(∀ j,p j=true→j∈cs.map (·.i))→G.le G1 →
   St c G1 (H0++Ff cs p vals) w1→Jq L0 L→(∀ k∈cs,p k.i=true→Em L k.t=some (vals k.i)∧k.R G1 (vals k.i))→A x ops [] (fun _=>True) Q (fuel+m) (marks ops.size p) ⟨D,L⟩ w1 by
  rw [mU]
  have hf:(cs.filter fun k=>!(fun _=>false:Nat→Bool) k.i)=cs:=by simp
  refine hmain cs.length (fun _=>false) G (fun _=>undef) L0 w (by rw [hf]) (fun j h=>by cases h) (gLr _) ?_ ?_ (fun k _ h=>by cases h)
  ·have:Ff cs (fun _=>false) (fun _=>undef)=[]:=by
    unfold Ff;rw [List.flatMap_eq_nil_iff];intro k _;rfl
   rw [this,AaX];exact hs
  ·have:∀ M:List (Nat×Value),(M.map Prod.fst).Nodup→Jq M M:=fun M h=>by
    induction M with
    | nil=>trivial
    | cons a M ih =>
     rw [Aar,AbT] at h
     exact ⟨iV,Zu (ih h.2) h.1⟩
   exact this L0 (Oo _ _ hbs).1
 intro m
 induction m with
 | zero =>
  intro p G1 vals L w1 hm hp hG hs1 hL hv
  have hall:∀ k∈cs,p k.i=true:=fun k hk=>by
   cases h:p k.i
   ·have:k∈cs.filter fun k=>!p k.i:=AcG.2 ⟨hk,by rw [h];rfl⟩
    rw [List.length_eq_zero_iff.1 hm] at this;cases this
   ·rfl
  have e1:marks ops.size p=marks ops.size fun j=>Zj (cs.map (·.i)) j:=iT fun j _=>by
   cases h:p j
   ·cases h2:Zj (cs.map (·.i)) j
    ·rfl
    ·obtain ⟨k,hk,rfl⟩:=Aaf.1 (Ku.1 h2)
     rw [hall k hk] at h;cases h
   ·exact (Ku.2 (hp j h)).symm
  rw [e1]
  refine hend G1 vals L w1 hG ?_ hL fun k hk=>hv k hk (hall k hk)
  rw [Oq (q:=p) (ws:=vals) fun k hk=>⟨(hall k hk).symm,rfl⟩];exact hs1
 | succ m ih =>
  intro p G1 vals L w1 hm hp hG hs1 hL hv h1 h2 h3 h4 a ha
  obtain ⟨k0,hk0⟩:∃ k,k∈cs.filter fun k=>!p k.i:=List.exists_mem_of_length_pos Bm
  obtain ⟨hk0,hk0p⟩:=AcG.1 hk0
  simp only [Bool.not_eq_true'] at hk0p
  have depsL:∀ {i:Nat} {o:Oper},ops[i]?=some o→∀ e∈o.after,Region.binds .any e=true→e.on∈Ug ops i:=fun {i o} ho e he hb=>by
   unfold Ug;rw [ho];exact Aaf.2 ⟨e,AcG.2 ⟨by simpa using he,hb⟩,rfl⟩
  have szlt:∀ {i:Nat} {o:Oper},ops[i]?=some o→i<ops.size:=fun h=>(Array.getElem?_eq_some_iff.1 h).1
  refine ⟨fun h0=>?_,fun i hi=>?_⟩
  ·obtain ⟨i,hi,hpi,hd⟩:=dH _ _ hto (fun _ h=>by cases h) ⟨k0.i,Aal hk0,hk0p⟩
   obtain ⟨k,hk,rfl⟩:=Aaf.1 hi
   obtain ⟨o,ho,_⟩:=hstep k hk
   have:k.i∈Region.ready .any ops (marks ops.size p):=mem_ready.2 ⟨by rw [Kt (szlt ho)];exact hpi,o,ho,fun e he hb=>by
    have h5:=hd _ (depsL ho e he hb)
    obtain ⟨k',hk',he'⟩:=Aaf.1 (hp _ h5)
    obtain ⟨o',ho',_⟩:=hstep k' hk'
    rw [Kt (by rw [← he'];exact szlt ho')];exact h5⟩
   rw [h0] at this;cases this
  ·have hi':=hi
   obtain ⟨hun,o,ho,hall⟩:=mem_ready.1 hi
   have hsz:=szlt ho
   rw [Kt hsz] at hun
   have hin:i∈cs.map (·.i):=by
    have h5:=AbD.1 htl i (Aae.2 hsz)
    rw [Abv] at h5
    rcases h5 with h5 | h5
    ·exact Ku.1 h5
    ·have h6:=Ql h4 _ i o ho hall (AbD.1 h5 k0.i (Aal hk0))
     obtain ⟨o0,ho0,_⟩:=hstep k0 hk0
     rw [Kt (szlt ho0),hk0p] at h6;cases h6
   obtain ⟨k,hk,rfl⟩:=Aaf.1 hin
   obtain ⟨o',ho',hdst,hgu,hst⟩:=hstep k hk
   rw [ho] at ho';injection ho' with ho';subst ho'
   have hS:=hst G1 (Ff cs p vals) L w1 hG hs1 hL fun j hj hd=>by
    have hon:=Ku.1 hd
    unfold Ug at hon;rw [ho] at hon
    obtain ⟨e,he,hej⟩:=Aaf.1 hon
    obtain ⟨he,hb⟩:=AcG.1 he
    have h5:=hall e (by simpa using he) hb
    obtain ⟨oj,hoj,_⟩:=hstep j hj
    rw [hej,Kt (szlt hoj)] at h5
    exact ⟨_,hv j hj h5⟩
   unfold wpOpIn
   have hgd:gd ops o ⟨D,L⟩=some true:=by unfold gd;rw [hgu]
   simp only [ho,Rs hgd ha,if_true]
   refine hS a ha _ fun v w' ⟨G',hGG,hR,hs'⟩=>⟨fun _=>trivial,?_⟩
   have hx:A x ops [] (fun _=>True) Q (fuel+m) (marks ops.size fun j=>p j || Nat.beq j k.i) ⟨D,(k.t,v)::L⟩ w':=by
    refine ih (fun j=>p j || Nat.beq j k.i) G' (fun j=>if j=k.i then v else vals j) ((k.t,v)::L) w' ?_ ?_ (hG.trans hGG) ?_ ?_ ?_
    ·exact wN hni hk hun hm
    ·intro j hj
     rw [Abv] at hj
     rcases hj with hj | hj
     ·exact hp j hj
     ·rw [Aam hj];exact hin
    ·refine hs'.perm ?_
     rw [← AaI]
     exact (Abd.append_right _).trans (by rw [AaI];exact (dI hni hk hun).append_left _)
    ·exact Zu hL (hnb k.t (Aal hk))
    ·intro j hj hpj
     by_cases hji:j.i=k.i
     ·obtain rfl:=pU hni hj hk hji
      rw [if_pos rfl]
      exact ⟨iV,hR⟩
     ·rw [if_neg hji]
      rw [Abv] at hpj
      rcases hpj with hpj | hpj
      ·have:=hv j hj hpj
       exact ⟨by rw [iU (fun e=>hji (congrArg Js.i (pT hnt hk hj e)).symm)];exact this.1,hmono j hj _ _ _ hGG this.2⟩
      ·exact absurd (Aam hpj) hji
   rw [dG]
   have hd4:=h4.ready hi'
   rw [dG] at hd4
   have ha':=ha.put (some k.t) v (fun d hd=>Yb h1 ho d (by rw [hdst];exact hd))
   rw [hdst]
   exact hx h1 h2 h3 hd4 _ ha'
def Wq (P:Js→Prop):List Js→Prop
 | []=>True
 | k::l=>P k∧Wq P l
theorem Wq.mem {P:Js→Prop}:∀ {l:List Js},Wq P l→∀ k∈l,P k
 | [],_,_,h=>by cases h
 | a::l,⟨h1,h2⟩,k,h=>by
  rcases AaV.1 h with rfl | h
  ·exact h1
  ·exact Wq.mem h2 k h
def Jt (e:TypeId) (cs:List Value):Value→List Res
 | .pointer (some ⟨b,0,none⟩)=>[.blk b e cs]
 | _=>[]
def fD (e k n:Nat) (xs:List Value) (v:Value):List Res:=[.row e k v n xs]
def Kb (_:Ah) (v:Value):Prop:=∃ b,v=.pointer (some ⟨b,0,none⟩)
def Ft (_:Value):List Res:=[]
theorem fE {x:Cx} {Q:Exit→Env→World→Prop} {c:Ctx} {D:List Deferred} {M:List (Nat×Value)} {H0:List Res} {G:Ah} {w:World} {id:Nat} {l:List Oper} (fuel:Nat) (cs:List Js) (L0:List (Nat×Value))
  (hs:St c G H0 w) (hsub:Jq L0 M) (hf:l.length=fuel+cs.length) (hm:eY x.P x.N l.toArray=true)
  (hok:mV l.toArray (cs.map (·.i)) (cs.map (·.t)) (L0.map Prod.fst)=true)
  (hmono:∀ k∈cs,∀ (G G':Ah) (v:Value),G.le G'→k.R G v→k.R G' v)
  (hstep:∀ k∈cs,iW x l.toArray Q c G H0 D L0 cs k)
  (hend:∀ (G':Ah) (vals:Nat→Value) (L:List (Nat×Value)) (w':World),G.le G'→St c G' (H0++Ff cs (fun _=>true) vals) w'→Jq L0 L→(∀ k∈cs,Em L k.t=some (vals k.i)∧k.R G' (vals k.i)) →
   A x l.toArray [] (fun _=>True) Q fuel (marks l.length fun j=>Zj (cs.map (·.i)) j) ⟨D,L⟩ w'):T x (.region id l.toArray true) Q ⟨D,M⟩ w:=by
 refine Oh L0 hsub (vZ [] (fun _=>True) hm ?_)
 have h:=A_calm (fuel:=fuel) cs hok hmono hstep hs.drew (by simpa using hend)
 rw [← hf] at h
 simpa using h
theorem iX (a b:Nat):Rv .andNot .u64 (a:Int) (b:Int)=((Dn a (Kr 18446744073709551615 b):Nat):Int):=by
 show IntKind.u64.wrap ((BitVec.ofInt 64 (a:Int) &&& ~~~BitVec.ofInt 64 (b:Int)).toNat:Int)=_
 rw [BitVec.toNat_and,BitVec.not_def,BitVec.toNat_xor,BitVec.toNat_allOnes,Jc,Jc,Na]
 have h:a % W64 &&& (2 ^ 64-1 ^^^ b % W64)=Dn a (Kr 18446744073709551615 b):=by
  show _=a % W64 &&& Kr 18446744073709551615 b % W64
  rw [AaT (Sf _ b)];rfl
 rw [h,AaT (Gv _ _)]
section
variable {x:Cx} {W:World→Prop} {E:Env} {K:Value→Prop} {d:Option Tmp} {ty:TypeId} {pos:String} {aft:Array Edge} {g:Option (Nat×Bool)} {xt yt:TypeId} {o p:Operand} {a b:Nat}
theorem mW (h1:ev E o=some (Bb a)) (h2:ev E p=some (Bb b)) (k:K (Bb (Dn a (Kr 18446744073709551615 b)))):Y x W ⟨d,.binOp .andNot xt o p yt,ty,pos,aft,g⟩ E K:=eZ h1 h2 Di (iX a b) k
theorem Zw {t e:TypeId} {n k:Nat} {kd:IntKind} {j:Int} {vs ws:List Value} (i:Nat) (hu:x.P.underlying t=some (.array n e)) (hA:∀ w,(isAgg e).run x.P w=.ok true w) (hS:∀ w,(sizeOf e).run x.P w=.ok k w)
  (h1:ev E o=some (.agg vs.toArray)) (h2:ev E p=some (.int kd j)) (hj:j=(i:Int)) (hlt:i<n) (hv:(vs.drop (i*k)).take k=ws) (kk:K (.agg ws.toArray)):Y x W ⟨d,.index t o p,ty,pos,aft,g⟩ E K:=by
 subst hj hv
 refine Du (v:=.agg ((vs.drop (i*k)).take k).toArray) (fun f hf w _=>?_) kk
 simp [execOp,hf.ev h1,hf.ev h2,Instr.index,asIntOf,run_underlying hu,hS w,hlt,part,hA w]
end
section
variable {x:Cx} {W:World→Prop} {E:Env} {K:Value→Prop} {d:Option Tmp} {ty:TypeId} {pos:String} {aft:Array Edge} {g:Option (Nat×Bool)} {xt yt:TypeId} {o q:Operand}
end
structure tN (cur:Array Value) (o n cap:Nat) (xs:List Value):Prop where
 size:o+cap≤cur.size
 le:n≤cap
 max:cap≤maxLen
 len:xs.length=n
 get:∀ i u,xs[i]?=some u→cur[o+i]?=some u
theorem tN.tail {cur:Array Value} {o n cap:Nat} {x:Value} {xs:List Value} (h:tN cur o n cap (x::xs)):tN cur (if cap=1 then o else o+1) (n-1) (cap-1) xs:=by
 have hl:=h.len
 rw [AaZ] at hl
 refine ⟨?_,by have:=h.le;omega,by have:=h.max;omega,by omega,fun i u hu=>?_⟩
 ·have:=h.size;have:=h.le;split<;>omega
 ·have h1:=h.get (i+1) u (by simpa using hu)
  have h2:=(AbN.1 hu).1
  rw [if_neg (by have:=h.le;omega),Nat.add_assoc,Nat.add_comm 1 i];exact h1
section
variable {x:Cx} {W:World→Prop} {E:Env} {K:Value→Prop} {d:Option Tmp} {ty:TypeId} {pos:String} {aft:Array Edge} {g:Option (Nat×Bool)} {o' q:Operand} {c:Ctx} {G:Ah} {H:List Res}
end
section
variable {x:Cx} {Q:Exit→Env→World→Prop} {E:Env} {K:Value→World→Prop} {w:World} {d:Option Tmp} {ty:TypeId} {pos:String} {aft:Array Edge} {g:Option (Nat×Bool)} {c:Ctx} {G:Ah} {H:List Res}
end
section
variable {x:Cx} {W:World→Prop} {E:Env} {K:Value→Prop} {d:Option Tmp} {ty:TypeId} {pos:String} {aft:Array Edge} {g:Option (Nat×Bool)} {o q:Operand}
theorem iY {t e:TypeId} {b n cp k:Nat} {kd:IntKind} {j:Int} (l:Nat) (hu:x.P.underlying t=some (.slice e)) (hs:∀ w,(sizeOf e).run x.P w=.ok k w) (h1:ev E o=some (.slice (some ⟨b,0,none⟩) n cp)) (h2:ev E q=some (.int kd j)) (hj:j=(l:Int)) (hl:l≤n) (hn:n≤cp) (h0:0<cp)
  (kk:K (.slice (some ⟨b,0,none⟩) l cp)):Y x W ⟨d,.slice t o none (some q) none,ty,pos,aft,g⟩ E K:=by
 subst hj
 have hadd:(⟨b,0,none⟩:Addr).add 0=⟨b,0,none⟩:=rfl
 refine Du (v:=.slice (some ⟨b,0,none⟩) l cp) (fun f hf w _=>?_) kk
 simp [execOp,hf.ev h1,hf.ev h2,Instr.sliceAt,Instr.slice,Instr.sliceBounds,Instr.sliceBound,asIntOf,run_underlying hu,hs w,hadd,show l≤cp by omega,show ¬ cp=0 by omega]
end
section
variable {x:Cx} {Q:Exit→Env→World→Prop} {E:Env} {K:Value→World→Prop} {w:World} {d:Option Tmp} {ty:TypeId} {pos:String} {aft:Array Edge} {g:Option (Nat×Bool)} {c:Ctx} {G:Ah} {H:List Res}
end
section
variable {α:Type} {lt:α→α→Bool}
structure Ordr (lt:α→α→Bool):Prop where
 asym:∀ a b,lt a b=true→lt b a=false
 trans:∀ a b c,lt b a=false→lt c b=false→lt c a=false
def Srt (lt:α→α→Bool) (l:List α):Prop:=l.Pairwise fun a b=>lt b a=false
theorem Srt.swap {p q:List α} {x y:α} (ho:Ordr lt) (h:Srt lt ((p++[y])++q)) (hq:∀ b∈q,lt b x=false) (hx:lt x y=true):Srt lt (p++(y::q))∧∀ b∈y::q,lt b x=false:=by
 refine ⟨by simpa using h,?_⟩
 intro b hb
 rcases AaV.1 hb with rfl | hb
 ·exact ho.asym _ _ hx
 ·exact hq b hb
end
theorem tN.pre {cur:Array Value} {o n cap:Nat} {xs:List Value} {y:Value} (h:tN cur o (n+1) cap (xs++[y])):tN cur o n cap xs:=by
 have hl:=h.len
 rw [AaB,Aac] at hl
 refine ⟨h.size,by have:=h.le;omega,h.max,by omega,fun i u hu=>h.get i u ?_⟩
 rw [AaN (AbN.1 hu).1];exact hu
section
variable {x:Cx} {Q:Exit→Env→World→Prop} {E:Env} {K:Value→World→Prop} {w:World} {d:Option Tmp} {ty:TypeId} {pos:String} {aft:Array Edge} {g:Option (Nat×Bool)} {c:Ctx} {G:Ah} {H:List Res}
theorem Cq {t e k n:Nat} {ps:List (Nat×Operand)} {z:Value} {zs cs:List Value} {vs:List (Nat×Value)} (hs:St c G H w) (hM0:∀ k,c.M k→k<c.w0.heap.size) (hu:x.P.underlying t=some (.slice e)) (hS:∀ w,(sizeOf e).run x.P w=.ok k w)
  (hz:∀ w,(zeroValue e).run x.P w=.ok z w) (hk:z.cells.size=k) (hzs:(List.replicate n z.cells.toList).flatten=zs) (hn:n*k≤16777216) (hn':n≤16777216) (hv:evs E ps=some vs) (hc:Gd (fun i=>some (i*k,k)) zs vs=some cs) (hl:cs.length=n*k)
  (kk:∀ v w' G',G.le G'→Sl G' v k n cs→St c G' H w'→K v w'):S x ⟨d,.buildSlice t n ps.toArray,ty,pos,aft,g⟩ Q K E w:=by
 have hs1:St c G (.row e k (.slice (some ⟨w.heap.size,0,none⟩) n n) n cs::H) (w.alloc (.cells cs.toArray e)):=hs.alloc _ (Yi hl (by unfold maxLen;omega)) (fun j hj=>by simpa [Res.foot,Value.ownBlock] using hj.symm)
 obtain ⟨G',hG,hf,hs2⟩:=hs1.fixRow (fun b hb hM=>by
  have h1:w.heap.size=b:=by simpa [Value.ownBlock] using hb
  have h2:=hM0 b hM
  have h3:=hs.size
  omega)
 refine Ko rfl fun a ha=>⟨.slice (some ⟨w.heap.size,0,none⟩) n n,w.alloc (.cells cs.toArray e),?_,kk _ _ G' hG hf hs2⟩
 have hv':=Ol ha hv
 have hf:=Mj hc
 have hr:((Array.range (n*k)).map fun j=>z.cells[j % k]!)=zs.toArray:=by
  rw [← hzs,← Pk z.cells k hk n]
  apply Array.ext'
  simp
 simp only [execOp,Instr.buildSlice,Sem.run_bind,run_underlying hu w,Result.andThen_ok,hS w]
 rw [if_neg Bm]
 simp only [List.map_toArray,hv']
 by_cases h0:n*k=0
 ·have hz0:zs=[]:=by
   have:zs.toArray=#[]:=by rw [← hr,h0];simp
   simpa using this
  subst hz0
  simp only [h0,if_true,Sem.run_bind,Sem.run_pure,Result.andThen_ok]
  have:(Array.map (fun y=>(#[]:Array Value)[y % (#[]:Array Value).size]!) (Array.range 0))=#[]:=by simp
  rw [this,hf]
  simp [newRow]
 ·simp only [h0,if_false,Sem.run_bind,hz w,Result.andThen_ok,Sem.run_pure]
  rw [hk,hr,hf]
  simp [newRow]
end
theorem St.feetLt {w:World} {G:Ah} {H:List Res} (hs:St ⟨w,G,Bj H⟩ G H w):∀ k,Bj H k→k<w.heap.size:=by
 rintro k ⟨r,hr,hk⟩
 rcases AaM k w.heap.size with h | h
 ·exact h
 ·have h1:=hs.hold r hr
  have hn:w.heap[k]?=none:=AcL h
  exfalso
  cases r with
  | row e k' v n xs =>
   rcases h1.2 with ⟨rfl,_⟩ | ⟨b,cap,cur,rfl,_,hh,_⟩
   ·cases hk
   ·have:b=k:=by simpa [Res.foot,Value.ownBlock] using hk
    subst this;rw [hh] at hn;cases hn
  | blk b e cs =>
   have:k=b:=by simpa [Res.foot] using hk
   subst this
   have hh:w.heap[k]?=some (.cells cs.toArray e (0,0)):=h1
   rw [hh] at hn;cases hn
  | obj b o =>
   have:k=b:=by simpa [Res.foot] using hk
   subst this
   have hh:w.heap[k]?=some o:=h1
   rw [hh] at hn;cases hn
section
variable {x:Cx} {E:Env} {w:World} {d:Option Tmp} {ty:TypeId} {pos:String} {aft:Array Edge} {g:Option (Nat×Bool)} {c:Ctx} {G:Ah} {H:List Res}
theorem Sm {K:Value→Prop} {o:Operand} {t b j e n cap k:Nat} {v:Value} {xs:List Value} (h:Nat) (hi:H[h]?=some (.row e k (.slice (some ⟨b,0,none⟩) n cap) n xs)) (hA:∀ w,(isAgg t).run x.P w=.ok false w) (ho:ev E o=some (.pointer (some ⟨b,j,none⟩)))
  (hx:xs[j]?=some v) (kk:K v):Y x (St c G H) ⟨d,.load t o,ty,pos,aft,g⟩ E K :=
 Du (v:=v) (fun a ha w hw=>by
  have hr:w.ownsRow 0 e k (.slice (some ⟨b,0,none⟩) n cap) n xs:=hw.hold (.row e k _ n xs) (AaF hi)
  have hc:w.cell? ⟨b,j,none⟩=some v:=by
   rcases hr.2 with ⟨h0,_⟩ | ⟨b',cap',cur,h0,_,hh,_,_,_,htk⟩
   ·cases h0
   ·injection h0 with h1' h2' h3'
    injection h1' with h1'
    injection h1' with h1'
    subst h1'
    have hj:j<n*k:=by rw [← hr.1];exact (AbN.1 hx).1
    rw [← htk,AbJ hj] at hx
    simpa [World.cell?,hh] using hx
  simp [execOp,ha.ev ho,Instr.loadAt,Instr.sureAddr,loadVar,hA w,hc]) kk
theorem wO {Q:Exit→Env→World→Prop} {K:Value→World→Prop} {o p:Operand} {t b j e n cap k:Nat} {u:Value} {xs:List Value} (hs:St c G (.row e k (.slice (some ⟨b,0,none⟩) n cap) n xs::H) w) (hS:∀ w,(sizeOf t).run x.P w=.ok 1 w) (h1:ev E o=some (.pointer (some ⟨b,j,none⟩))) (h2:ev E p=some u)
  (hone:u.oneCell'=true) (hj:j<n*k) (kk:∀ w',St c G (.row e k (.slice (some ⟨b,0,none⟩) n cap) n (xs.set j u)::H) w'→K undef w'):S x ⟨d,.store t o p,ty,pos,aft,g⟩ Q K E w:=by
 have hown:w.ownsRow 0 e k (.slice (some ⟨b,0,none⟩) n cap) n xs:=hs.hold (.row e k _ n xs) Di
 rcases hown.2 with ⟨h,_⟩ | ⟨g',cp,cur,h,h0,hh,hnc,hcm,hsz,htk⟩
 ·cases h
 injection h with h1' h2' h3'
 injection h1' with h1'
 injection h1' with h1'
 subst h1' h3'
 have hck:n*k≤cap*k:=AbL _ hnc
 have hb:St c G (.blk b e cur.toList::H) w:=hs.write rfl rfl rfl (AaR _) (fun _ _ _=>rfl) (by simpa [Res.holds] using hh) (fun k hk=>.inl (by have:k=b:=hk;simp [Res.foot,Value.ownBlock,this]))
 refine Gc hb hS h1 h2 hone (by rw [Abe];omega) rfl fun w' hs'=>kk w' ?_
 have hh':w'.heap[b]?=some (.cells (cur.toList.set j u).toArray e (0,0)):=hs'.hold (.blk b e _) Di
 refine hs'.write rfl rfl rfl (AaR _) (fun _ _ _=>rfl) ⟨by rw [AaP];exact hown.1,.inr ⟨b,cap,_,rfl,h0,hh',hnc,hcm,by simpa using hsz,by rw [← htk];simp [List.take_set]⟩⟩ (fun k hk=>.inl (by
  have h9:b=k:=by simpa [Res.foot,Value.ownBlock] using hk
  exact h9.symm))
end
def pV:Nat→List (List Value)→List (Nat×Value)
 | _,[]=>[]
 | i,c::es=>(i,.agg c.toArray)::pV (i+1) es
theorem putL_pre:∀ (c zs pre suf:List Value),zs.length=c.length→Qo (pre++(zs++suf)) pre.length c=pre++(c++suf)
 | [],zs,pre,suf,h=>by
  obtain rfl:zs=[]:=AbR h
  rfl
 | x::c,z::zs,pre,suf,h=>by
  have ih:=putL_pre c zs (pre++[x]) suf iB
  rw [Qo,Abc,AbM _ _ (AaR _),Aaw,AcH]
  rw [AaB,Aac,AaI,AaI] at ih
  exact ih
 | _::_,[],_,_,h=>by cases h
theorem dJ {k:Nat}:∀ (es:List (List Value)) (i:Nat) (pre zs:List Value),pre.length=i*k→zs.length=es.length*k→(∀ c∈es,c.length=k)→Gd (fun i=>some (i*k,k)) (pre++zs) (pV i es)=some (pre++es.flatten)
 | [],i,pre,zs,_,hz,_=>by
  obtain rfl:zs=[]:=AbR (by simpa using hz)
  rfl
 | c::es,i,pre,zs,hp,hz,hk=>by
  have hc:=hk c AaK
  rw [AaZ,AcK] at hz
  have e:zs=zs.take k++zs.drop k:=(List.take_append_drop k zs).symm
  have hl:(zs.take k).length=c.length:=by rw [Aag];omega
  have hput:Qo (pre++zs) (i*k) c=(pre++c)++zs.drop k:=by
   rw [← hp];conv=>lhs;rw [e]
   rw [putL_pre c _ pre _ hl,AaI]
  have hb1:Nat.beq (Value.agg c.toArray).cells.toList.length k=true:=by rw [show (Value.agg c.toArray).cells.toList=c from rfl,hc];exact Nat.beq_refl k
  have hb2:Nat.ble (i*k+(Value.agg c.toArray).cells.toList.length) (pre++zs).length=true:=by
   rw [show (Value.agg c.toArray).cells.toList=c from rfl,hc,AaB,hp,hz];exact Nat.ble_eq_true_of_le Bm
  rw [pV,Gd]
  simp only [hb1,hb2,Bool.and_true,cond_true]
  rw [show (Value.agg c.toArray).cells.toList=c from rfl,hput,dJ es (i+1) (pre++c) (zs.drop k) (by rw [AaB,hp,hc,AcK]) (by rw [Abo,hz];omega) (fun d hd=>hk d (AaG _ hd)),AbW,AaI]
theorem Sn {l:List Value}:∀ n,((List.replicate n l).flatten).length=n*l.length
 | 0=>by simp
 | n+1=>by rw [AbY,AbW,AaB,Sn n,AcK,Nat.add_comm]
theorem allLen {k:Nat} {es:List (List Value)} (h:es.all (fun c=>Nat.beq c.length k)=true):∀ c∈es,c.length=k:=fun c hc=>Aam (AbD.1 h c hc)
theorem dK {k:Nat}:∀ {es:List (List Value)},(∀ c∈es,c.length=k)→es.flatten.length=es.length*k
 | [],_=>by simp
 | c::es,h=>by rw [AbW,AaB,h c AaK,dK fun d hd=>h d (AaG _ hd),AaZ,AcK,Nat.add_comm]
section
variable {x:Cx} {Q:Exit→Env→World→Prop} {E:Env} {K:Value→World→Prop} {w:World} {d:Option Tmp} {ty:TypeId} {pos:String} {aft:Array Edge} {g:Option (Nat×Bool)} {c:Ctx} {G:Ah} {H:List Res}
theorem wP {t e k n:Nat} {ps:List (Nat×Operand)} {z:Value} {es:List (List Value)} (hs:St c G H w) (hu:x.P.underlying t=some (.slice e)) (hS:∀ w,(sizeOf e).run x.P w=.ok k w)
  (hz:∀ w,(zeroValue e).run x.P w=.ok z w) (hk:Nat.beq z.cells.size k=true) (hn:Nat.ble (n*k) 16777216=true) (hn':Nat.ble n 16777216=true) (hne:n=es.length) (hv:evs E ps=some (pV 0 es)) (hl:es.all (fun c=>Nat.beq c.length k)=true)
  (kk:∀ v w',St c G (.row e k v n es.flatten::H) w'→(∃ b,v=.slice (some ⟨b,0,none⟩) n n)→K v w'):S x ⟨d,.buildSlice t n ps.toArray,ty,pos,aft,g⟩ Q K E w :=
 have hk':=Aam hk
 have hl':=allLen hl
 Bw hs hu hS hz hk' rfl (AcA hn) (AcA hn') hv (by
  have:=dJ es 0 [] (List.replicate n z.cells.toList).flatten Di (by rw [Sn,show z.cells.toList.length=k from hk',hne]) hl'
  simpa using this) (by rw [dK hl',hne]) kk
end
section
variable {x:Cx} {W:World→Prop} {E:Env} {K:Value→Prop} {d:Option Tmp} {ty:TypeId} {pos:String} {aft:Array Edge} {g:Option (Nat×Bool)} {kd:IntKind} {a b:Int} {o p:Operand} {xt yt:TypeId}
end
end Go.Ex
namespace Go.Ex
open Go Go.RowKit Go.ChangeShapes Go.WideShapes Go.ChangeAt
section
variable {H:Type} {enc:TypeId×Value→H} {P:Program}
end
end Go.Ex
namespace Go.Ex
open Go Go.RowKit
theorem kR {p:Prop} (h:p:=by kernel_rfl):p:=h
theorem oM {p:Prop} (h:p:=by omega):p:=h
theorem sM {p:Prop} (h:p:=by simp):p:=h
theorem dC {p:Prop} (h:p:=by decide):p:=h
theorem rF {p:Prop} (h:p:=by exact rfl):p:=h
abbrev Vn:Value:=.slice none 0 0
abbrev Vf:Value:=.bool false
abbrev Vt:Value:=.bool true
abbrev Vi (n:Int):Value:=.int .i64 n
abbrev Vp (b:Nat):Value:=.pointer (some ⟨b,0,none⟩)
abbrev Vs (b n c:Nat):Value:=.slice (some ⟨b,0,none⟩) n c
class Ia (P:Program) (t:Nat) (b:outParam Bool):Prop where p:∀ w,(isAgg t).run P w=.ok b w
class Sz (P:Program) (t:Nat) (n:outParam Nat):Prop where p:∀ w,(sizeOf t).run P w=.ok n w
class Un (P:Program) (t:Nat) (d:outParam TypeDesc):Prop where p:P.underlying t=some d
class Fo (P:Program) (s i:Nat) (n:outParam Nat):Prop where p:Mi P s i=some n
class Ic (P:Program) (f:Nat) (fn:outParam Func):Prop where
 p:P.funcs[f]?=some fn
 b:fn.body.isSome=true
 n : (fn.name == "runtime.NumGoroutine") = false
def nl:List Value→Option (List Value)
 | []=>some []
 | a::l=>match nl l with
  | none=>none
  | some r=>some (a::r)
theorem dL:∀ {l r:List Value},nl l=some r→l=r
 | [],r,h=>by injection h
 | a::l,r,h=>by
  unfold nl at h
  cases h1:nl l with
  | none=>rw [h1] at h;cases h
  | some u=>rw [h1] at h;injection h with h;rw [dL h1,h]
section
variable {P:Program} {N:Nat} {r:Option Nat} {ops:Array Oper} {Q:Exit→Env→World→Prop} {D:List Deferred} {L M:List (Nat×Value)} {E:Env} {w:World} {W:World→Prop} {l:List Oper} {d:Option Tmp} {t:Tmp} {op:Op} {ty:TypeId} {pos:String} {aft:Array Edge} {g:Option (Nat×Bool)} {o q:Operand} {v:Value}
 {c:Ctx} {G:Ah} {H:List Res} {K:Value→Prop}
theorem Zk {cd:Code} (ks:List Nat) (h:Sk M ks=some L) (k:T ⟨P,N,r⟩ cd Q ⟨D,L⟩ w):T ⟨P,N,r⟩ cd Q ⟨D,M⟩ w:=T_kp ks h k
theorem Zr {id:Nat} (k:O ⟨P,N,r⟩ l.toArray Q l E w) (h:Mu N l=true:=by exact rfl):T ⟨P,N,r⟩ (.region id l.toArray false) Q E w:=iE h k
theorem Zl {id:Nat} {cd:Code} (ks:List Nat) (I:Nat→Env→World→Prop) {n0:Nat} (h:Sk M ks=some L) (h0:I n0 ⟨D,L⟩ w) (k:∀ n E w,I n E w→T ⟨P,N,r⟩ cd (lp I n (bk id Q)) E w):T ⟨P,N,r⟩ (.block id (.loop cd)) Q ⟨D,M⟩ w :=
 Kd (Ud I (Mk h) h0 k)
theorem Zy (hs:W w) (k:Y ⟨P,N,r⟩ W ⟨some t,op,ty,pos,aft,none⟩ ⟨D,L⟩ fun v=>O ⟨P,N,r⟩ ops Q l ⟨D,(t,v)::L⟩ w) (hd:Jf op=true:=by exact rfl):O ⟨P,N,r⟩ ops Q (⟨some t,op,ty,pos,aft,none⟩::l) ⟨D,L⟩ w:=O_y hs k hd
theorem Zg (hs:W w) {j d:Nat} {b:Bool} (h:((ops[j]?).bind (·.dst),Em L d)=(some d,some (.bool b)))
  (k:Y ⟨P,N,r⟩ W ⟨some t,op,ty,pos,aft,some (j,b)⟩ ⟨D,L⟩ fun v=>O ⟨P,N,r⟩ ops Q l ⟨D,(t,v)::L⟩ w) (hd:Jf op=true:=by exact rfl):O ⟨P,N,r⟩ ops Q (⟨some t,op,ty,pos,aft,some (j,b)⟩::l) ⟨D,L⟩ w :=
 O_yy d hs (congrArg Prod.fst h) (congrArg Prod.snd h) k hd
section
variable {pre:List Nat} {fuel:Nat} {listed:Array Bool}
theorem Xt (i:Nat) (hW:W w) (h:(ops[i]?,gd ops ⟨some t,op,ty,pos,aft,g⟩ ⟨D,L⟩)=(some ⟨some t,op,ty,pos,aft,g⟩,some true))
  (k:Y ⟨P,N,r⟩ W ⟨some t,op,ty,pos,aft,g⟩ ⟨D,L⟩ fun v=>A ⟨P,N,r⟩ ops pre W Q fuel (listed.setIfInBounds i true) ⟨D,(t,v)::L⟩ w) (hf:Ue ops pre listed i=true:=by kernel_rfl):A ⟨P,N,r⟩ ops pre W Q (fuel+1) listed ⟨D,L⟩ w :=
 wA i (congrArg Prod.fst h) hf (congrArg Prod.snd h) hW k
theorem Xo (i:Nat) (h:(ops[i]?,gd ops ⟨some t,op,ty,pos,aft,g⟩ ⟨D,L⟩)=(some ⟨some t,op,ty,pos,aft,g⟩,some true))
  (k:S ⟨P,N,r⟩ ⟨some t,op,ty,pos,aft,g⟩ (np Q) (fun v w'=>W w'∧A ⟨P,N,r⟩ ops pre W Q fuel (listed.setIfInBounds i true) ⟨D,(t,v)::L⟩ w') ⟨D,L⟩ w) (hr:(Region.ready .any ops listed == [i])=true:=by kernel_rfl):A ⟨P,N,r⟩ ops pre W Q (fuel+1) listed ⟨D,L⟩ w :=
 A_only i (congrArg Prod.fst h) hr (congrArg Prod.snd h) k
theorem Xa (i:Nat) (h:(ops[i]?,gd ops ⟨some t,op,ty,pos,aft,g⟩ ⟨D,L⟩)=(some ⟨some t,op,ty,pos,aft,g⟩,some true))
  (k:S ⟨P,N,r⟩ ⟨some t,op,ty,pos,aft,g⟩ (np Q) (fun v w'=>A ⟨P,N,r⟩ ops pre W Q fuel (listed.setIfInBounds i true) ⟨D,(t,v)::L⟩ w') ⟨D,L⟩ w) (hr:(Region.ready .any ops listed == [i])=true:=by kernel_rfl) (hp:pre.contains i=false:=by kernel_rfl):A ⟨P,N,r⟩ ops pre W Q (fuel+1) listed ⟨D,L⟩ w :=
 A_tail i (congrArg Prod.fst h) hr hp (congrArg Prod.snd h) k
theorem Xn (i:Nat) (h:(ops[i]?,gd ops ⟨none,op,ty,pos,aft,g⟩ E)=(some ⟨none,op,ty,pos,aft,g⟩,some true))
  (k:S ⟨P,N,r⟩ ⟨none,op,ty,pos,aft,g⟩ (np Q) (fun _ w'=>A ⟨P,N,r⟩ ops pre W Q fuel (listed.setIfInBounds i true) E w') E w) (hr:(Region.ready .any ops listed == [i])=true:=by kernel_rfl) (hp:pre.contains i=false:=by kernel_rfl):A ⟨P,N,r⟩ ops pre W Q (fuel+1) listed E w :=
 A_tailN i (congrArg Prod.fst h) hr hp (congrArg Prod.snd h) k
theorem Xm (i:Nat) (h:(ops[i]?,gd ops ⟨none,op,ty,pos,aft,g⟩ E)=(some ⟨none,op,ty,pos,aft,g⟩,some true))
  (k:S ⟨P,N,r⟩ ⟨none,op,ty,pos,aft,g⟩ (np Q) (fun _ w'=>W w'∧A ⟨P,N,r⟩ ops pre W Q fuel (listed.setIfInBounds i true) E w') E w) (hr:(Region.ready .any ops listed == [i])=true:=by kernel_rfl):A ⟨P,N,r⟩ ops pre W Q (fuel+1) listed E w :=
 A_onlyN i (congrArg Prod.fst h) hr (congrArg Prod.snd h) k
theorem Xe (k:Q .normal E w) (hr:(Region.ready .any ops listed).isEmpty=true:=by kernel_rfl):A ⟨P,N,r⟩ ops pre W Q fuel listed E w:=Fu hr k
end
theorem Yf {s i b j n:Nat} (m:Nat) [hf:Fo P s i n] (h:ev E o=some (.pointer (some ⟨b,j,none⟩))) (k:K (.pointer (some ⟨b,m,none⟩))) (hm:j+n=m:=by exact rfl):Y ⟨P,N,r⟩ W ⟨d,.fieldAddr s o i,ty,pos,aft,g⟩ E K :=
 Fq hf.p h hm k
theorem Yq (h:ev E o=some v) (k:K v):Y ⟨P,N,r⟩ W ⟨d,.assign o,ty,pos,aft,g⟩ E K:=iF h k
section
variable {kd:IntKind} {a b:Int} {xt yt:TypeId} {bo:BinOp}
theorem Yc {p:Prop} (h:(ev E o,ev E q,Vy bo)=(some (.int kd a),some (.int kd b),true)) (k1:p→K (.bool true)) (k2:¬ p→K (.bool false)) (e:p=Jg bo a b:=by first|(dsimp only [Jg];done)|exact rfl):Y ⟨P,N,r⟩ W ⟨d,.binOp bo xt o q yt,ty,pos,aft,g⟩ E K :=
 Qn (congrArg Prod.fst h) (congrArg (fun x=>x.2.1) h) (congrArg (fun x=>x.2.2) h) (fun h=>k1 (e▸h)) (fun h=>k2 (e▸h))
theorem Ya {s:Int} (h:(ev E o,ev E q)=(some (.int .i64 a),some (.int .i64 b))) (k:K (.int .i64 s)) (hc:a+b=s:=by omega) (hb : -9223372036854775808≤s∧s≤9223372036854775807:=by omega):Y ⟨P,N,r⟩ W ⟨d,.binOp .add xt o q yt,ty,pos,aft,g⟩ E K :=
 Kn (congrArg Prod.fst h) (congrArg Prod.snd h) hc hb k
end
theorem Yk {t e b n:Nat} {cs:List Value} (i:Nat) [hA:Ia P t true] [hS:Sz P t n] (h:(ev E o,H[i]?)=(some (.pointer (some ⟨b,0,none⟩)),some (.blk b e cs))) (hn:cs.length=n) (k:K (.agg cs.toArray)):Y ⟨P,N,r⟩ (St c G H) ⟨d,.load t o,ty,pos,aft,g⟩ E K :=
 Y_ldW i hA.p hS.p (congrArg Prod.fst h) (congrArg Prod.snd h) hn k
theorem Yg {t:Nat} {p:Addr} (h:ev E o=some (.pointer (some p))) (hp:Fc G p=some v) (k:K v) [hA:Ia P t false]:Y ⟨P,N,r⟩ (St c G H) ⟨d,.load t o,ty,pos,aft,g⟩ E K:=Yd hA.p h hp k
section
variable {K:Value→World→Prop}
theorem Sc {f:FuncId} {ao:List Operand} {ats:Array TypeId} {args:List Value} {H1:List Res} {R:Value→Ah→List Res→Prop} {fn:Func} (h:Ba P f args G H1 R) (hs:St c G (H1++H) w) (ha:ao.map (ev E)=args.map some)
  (kk:∀ v G' H' w',R v G' H'→G.le G'→St c G' (H'++H) w'→K v w') [hF:Ic P f fn]:S ⟨P,N,r⟩ ⟨d,.call { callee:=.value (.func f),args:=ao.toArray,argTypes:=ats },ty,pos,aft,g⟩ Q K E w :=
 Et hs ha hF.p hF.b hF.n h kk
theorem Sp {f:FuncId} {ao:List Operand} {ats:Array TypeId} {args:List Value} {R:Value→Ah→Prop} {fn:Func} (h:Ba P f args G [] fun v G' H'=>H'=[]∧R v G') (hs:St c G H w) (ha:ao.map (ev E)=args.map some)
  (kk:∀ v G' w',R v G'→G.le G'→St c G' H w'→K v w') [hF:Ic P f fn]:S ⟨P,N,r⟩ ⟨d,.call { callee:=.value (.func f),args:=ao.toArray,argTypes:=ats },ty,pos,aft,g⟩ Q K E w :=
 Et (H1:=[]) hs ha hF.p hF.b hF.n h fun v G' _ w' hR hG hs=>kk v G' w' hR.2 hG (by rw [hR.1] at hs;exact hs)
theorem Sa {e:TypeId} {z:Value} {cs:List Value} (hs:St c G H w) (hz:∀ w,(zeroValue e).run P w=.ok z w) (hc:nl z.cells.toList=some cs) (k:∀ b w',St c G (.blk b e cs::H) w'→K (.pointer (some ⟨b,0,none⟩)) w'):S ⟨P,N,r⟩ ⟨d,.alloc e,ty,pos,aft,g⟩ Q K E w :=
 Bs hs hz (dL hc) k
theorem Sb {e:TypeId} {cs:List Value} (hs:St c G H w) (h:(ev E o,nl v.cells.toList)=(some v,some cs)) (k:∀ b w',St c G (.blk b e cs::H) w'→K (.pointer (some ⟨b,0,none⟩)) w'):S ⟨P,N,r⟩ ⟨d,.box e o,ty,pos,aft,g⟩ Q K E w :=
 Fj hs (congrArg Prod.fst h) (dL (congrArg Prod.snd h)) k
theorem Sd {t b j e:Nat} {cs cs':List Value} (hs:St c G (.blk b e cs::H) w) [hS:Sz P t 1] (h:(ev E o,ev E q,nl (cs.set j v))=(some (.pointer (some ⟨b,j,none⟩)),some v,some cs')) (hone:v.oneCell'=true) (k:∀ w',St c G (.blk b e cs'::H) w'→K undef w') (hj:j<cs.length:=by simp):S ⟨P,N,r⟩ ⟨d,.store t o q,ty,pos,aft,g⟩ Q K E w :=
 Gc hs hS.p (congrArg Prod.fst h) (congrArg (fun x=>x.2.1) h) hone hj (dL (congrArg (fun x=>x.2.2) h)) k
theorem Sg {t b j e n:Nat} {vs cs cs':List Value} (hs:St c G (.blk b e cs::H) w) [hS:Sz P t n] (h:(ev E o,ev E q,nl (cs.take j++vs++cs.drop (j+n)))=(some (.pointer (some ⟨b,j,none⟩)),some (.agg vs.toArray),some cs')) (hone:vs.all (·.oneCell')=true)
  (k:∀ w',St c G (.blk b e cs'::H) w'→K undef w') (hn:vs.length=n:=by exact rfl) (hj:j+n≤cs.length:=by simp):S ⟨P,N,r⟩ ⟨d,.store t o q,ty,pos,aft,g⟩ Q K E w :=
 Lm hs hS.p (congrArg Prod.fst h) (congrArg (fun x=>x.2.1) h) hn hone hj (dL (congrArg (fun x=>x.2.2) h)) k
theorem Sw {t b e n:Nat} {vs cs:List Value} (hs:St c G (.blk b e cs::H) w) [hS:Sz P t n] (h:(ev E o,ev E q)=(some (.pointer (some ⟨b,0,none⟩)),some (.agg vs.toArray)))
  (hn:vs.length=n) (hc:cs.length=n) (hone:vs.all (·.oneCell')=true) (k:∀ w',St c G (.blk b e vs::H) w'→K undef w'):S ⟨P,N,r⟩ ⟨d,.store t o q,ty,pos,aft,g⟩ Q K E w :=
 pP hs hS.p (congrArg Prod.fst h) (congrArg Prod.snd h) hn hc hone k
theorem Se {t e k n:Nat} {ps:List (Nat×Operand)} {z:Value} {cs:List Value} {vs:List (Nat×Value)} (hs:St c G H w) [hS:Sz P e k] (hz:∀ w,(zeroValue e).run P w=.ok z w)
  (h:(evs E ps,Gd (fun i=>some (i*k,k)) (List.replicate n z.cells.toList).flatten vs)=(some vs,some cs)) (kk:∀ v w',St c G (.row e k v n cs::H) w'→(∃ b,v=.slice (some ⟨b,0,none⟩) n n)→K v w')
  [hu:Un P t (.slice e)] (hk:z.cells.size=k:=by exact rfl) (hn:n*k≤16777216:=by decide) (hn':n≤16777216:=by decide) (hl:cs.length=n*k:=by exact rfl):S ⟨P,N,r⟩ ⟨d,.buildSlice t n ps.toArray,ty,pos,aft,g⟩ Q K E w :=
 Bw hs hu.p hS.p hz hk rfl hn hn' (congrArg Prod.fst h) (congrArg Prod.snd h) hl kk
end
theorem Zz {fn:Func} {rv:ResultVar} {v:Value} {R:Value→World→Prop} (hr:fn.results=#[rv]) (h:Om P E w rv v) (hR:R v w) (hd:E.d=[]:=by exact rfl):Rt P N fn R .ret E w:=By (vs:=[v]) (rs:=[rv]) hr hd ⟨h,trivial⟩ hR
theorem Rb {a b e n:Nat} {ty:TypeId} {cs:List Value} (i:Nat) (hs:St c G H w) [hA:Ia P ty true] [hS:Sz P ty n] (h:(Em E.l a,H[i]?)=(some (.pointer (some ⟨b,0,none⟩)),some (.blk b e cs))) (hn:cs.length=n):Om P E w (.cell a ty) (.agg cs.toArray) :=
 Bq i hs hA.p hS.p (congrArg Prod.fst h) (congrArg Prod.snd h) hn
end
def nR:List Res→Option (List Res)
 | []=>some []
 | a::l=>match nR l with
  | none=>none
  | some r=>some (a::r)
theorem nR_eq:∀ {l r:List Res},nR l=some r→l=r
 | [],r,h=>by injection h
 | a::l,r,h=>by
  unfold nR at h
  cases h1:nR l with
  | none=>rw [h1] at h;cases h
  | some u=>rw [h1] at h;injection h with h;rw [nR_eq h1,h]
theorem St.n {c:Ctx} {G:Ah} {H H':List Res} {w:World} (hs:St c G H w) (h:nR H=some H'):St c G H' w:=nR_eq h▸hs
theorem St.q {c:Ctx} {G:Ah} {H:List Res} {w:World} {R:Ah→Prop} (hs:St c G H w) (h:R G):∃ G' H',St c G' H' w∧H'=[]∧R G':=⟨G,[],hs.done,rfl,h⟩
theorem St.wk {c:Ctx} {G:Ah} {b:List Res} {w:World} (a:List Res) (hs:St c G (a++b) w):St c G a w:=hs.weak hs.le (gLr _) (lSa a b)
theorem St.d3 {c:Ctx} {G:Ah} {x y z:Res} {b:List Res} {w:World} (hs:St c G (x::y::z::b) w):St c G b w:=hs.drop.drop.drop
structure Te (P:Program) where
 t:Nat
 b:Bool
 n:Nat
 hb:∀ w,(isAgg t).run P w=.ok b w
 hn:b=true→∀ w,(sizeOf t).run P w=.ok n w
structure Fe (P:Program) where
 s:Nat
 i:Nat
 n:Nat
 h:Mi P s i=some n
structure Se' (P:Program) where
 t:Nat
 e:Nat
 h:P.underlying t=some (.slice e)
structure Tq (P:Program) where
 ts:List (Te P)
 fs:List (Fe P)
 ss:List (Se' P)
variable {P:Program}
def tf (t:Nat):List (Te P)→Option (Te P)
 | []=>none
 | e::l=>bif Nat.beq e.t t then some e else tf t l
def ff (s i:Nat):List (Fe P)→Option (Fe P)
 | []=>none
 | e::l=>bif Nat.beq e.s s && Nat.beq e.i i then some e else ff s i l
def sf (t:Nat):List (Se' P)→Bool
 | []=>false
 | e::l=>bif Nat.beq e.t t then true else sf t l
theorem tf_eq {t:Nat}:∀ {l:List (Te P)} {e:Te P},tf t l=some e→e.t=t
 | [],_,h=>by cases h
 | a::l,e,h=>by
  unfold tf at h
  cases hb:Nat.beq a.t t with
  | true=>rw [hb] at h;injection h with h;exact h▸Aam hb
  | false=>rw [hb] at h;exact tf_eq h
theorem ff_eq {s i:Nat}:∀ {l:List (Fe P)} {e:Fe P},ff s i l=some e→e.s=s∧e.i=i
 | [],_,h=>by cases h
 | a::l,e,h=>by
  unfold ff at h
  cases hb:(Nat.beq a.s s && Nat.beq a.i i) with
  | true =>
   rw [hb] at h;injection h with h;subst h
   rw [Aah] at hb
   exact ⟨Aam hb.1,Aam hb.2⟩
  | false=>rw [hb] at h;exact ff_eq h
theorem sf_eq {t:Nat}:∀ {l:List (Se' P)},sf t l=true→∃ e,P.underlying t=some (.slice e)
 | [],h=>by cases h
 | a::l,h=>by
  unfold sf at h
  cases hb:Nat.beq a.t t with
  | true=>exact ⟨a.e,Aam hb▸a.h⟩
  | false=>rw [hb] at h;exact sf_eq h
def kdq:IntKind→IntKind→Bool
 | .i64,.i64=>true
 | .u64,.u64=>true
 | .u8,.u8=>true
 | .u32,.u32=>true
 | _,_=>false
theorem kdq_eq {a b:IntKind} (h:kdq a b=true):a=b:=by
 cases a<;>cases b<;>first|rfl|cases h
def cmpB (o:BinOp) (a b:Int):Option Bool :=
 match o with
 | .eql=>some (decide (a=b))|.neq=>some (!decide (a=b))|.lss=>some (decide (a<b))|.leq=>some (decide (a≤b))|.gtr=>some (decide (b<a))|.geq=>some (decide (b≤a))|_=>none
theorem pW {o:BinOp} {a b:Int} {t:Bool} (h:cmpB o a b=some t):Vy o=true∧(Jg o a b↔t=true):=by
 cases o<;>first|(cases h;done)|(refine ⟨rfl,?_⟩;injection h with h;subst h;simp [Jg])
def qv (F:Tq P) (H:List Res) (E:Env) (op:Op) (h:List Nat):Option (Value×List (Nat×Nat)×List Nat) :=
 match op with
 | .move o=>match ev E o with
  | some v=>some (v,[],h)
  | none=>none
 | .assign o=>match ev E o with
  | some v=>some (v,[],h)
  | none=>none
 | .pick c o q=>match ev E c with
  | some (.bool true)=>(match ev E o with|some v=>some (v,[],h)|none=>none)
  | some (.bool false)=>(match ev E q with|some v=>some (v,[],h)|none=>none)
  | _=>none
 | .extract o i=>match ev E o with
  | some (.tuple ⟨vs⟩)=>(match vs[i]? with|some v=>some (v,[],h)|none=>none)
  | _=>none
 | .unOp .not _ o=>match ev E o with
  | some (.bool b)=>some (.bool !b,[],h)
  | _=>none
 | .binOp bo _ o q _=>match ev E o,ev E q with
  | some (.int kd a),some (.int kd' b)=>(match kdq kd kd',cmpB bo a b with
   | true,some t=>some (.bool t,[],h)
   | _,_=>none)
  | _,_=>none
 | .fieldAddr s o i=>match ev E o,ff s i F.fs,h with
  | some (.pointer (some ⟨b,j,none⟩)),some e,m::h=>bif Nat.beq (j+e.n) m then some (.pointer (some ⟨b,m,none⟩),[],h) else none
  | _,_,_=>none
 | .load t o=>match ev E o,tf t F.ts,h with
  | some (.pointer (some ⟨b,j,none⟩)),some e,m::h=>(match H[m]? with
   | some (.blk b' _ cs)=>bif e.b then (match nl ((cs.drop j).take e.n) with
     | some vs=>bif Nat.beq vs.length e.n then some (.agg ⟨vs⟩,[(b,b')],h) else none
     | none=>none)
    else (match cs[j]? with | some v=>some (v,[(b,b')],h) | none=>none)
   | _=>none)
  | _,_,_=>none
 | .call ⟨.builtin .len,⟨[o]⟩,⟨[t]⟩⟩=>match ev E o,sf t F.ss with
  | some (.slice _ n _),true=>some (.int .i64 (n:Int),[],h)
  | _,_=>none
 | _=>none
def eqs (es:List (Nat×Nat)):Prop:=es.map Prod.fst=es.map Prod.snd
theorem fF {a b:List (Nat×Nat)} (h:eqs (a++b)):eqs a∧eqs b:=by
 unfold eqs at h ⊢
 rw [AaU,AaU] at h
 exact List.append_inj h Di
section
variable {N:Nat} {r:Option Nat} {c:Ctx} {G:Ah} {H:List Res} {E:Env} {F:Tq P} {d:Option Tmp} {op:Op} {ty:TypeId} {pos:String} {aft:Array Edge} {g:Option (Nat×Bool)} {K:Value→Prop} {v:Value} {es:List (Nat×Nat)} {h h':List Nat}
theorem qv_nd (hq:qv F H E op h=some (v,es,h')):Jf op=true:=by
 cases op<;>first|rfl|cases hq
theorem wQ (hq:qv F H E op h=some (v,es,h')) (he:eqs es) (k:K v):Y ⟨P,N,r⟩ (St c G H) ⟨d,op,ty,pos,aft,g⟩ E K:=by
 unfold qv at hq
 split at hq
 ·split at hq
  ·rename_i hv;injection hq with hq;injection hq with h1 h2;subst h1;exact Ok hv k
  ·cases hq
 ·split at hq
  ·rename_i hv;injection hq with hq;injection hq with h1 h2;subst h1;exact iF hv k
  ·cases hq
 ·split at hq
  ·rename_i hc;split at hq
   ·rename_i hv;injection hq with hq;injection hq with h1 h2;subst h1;exact Y_pickT hc hv k
   ·cases hq
  ·rename_i hc;split at hq
   ·rename_i hv;injection hq with hq;injection hq with h1 h2;subst h1;exact Y_pickF hc hv k
   ·cases hq
  ·cases hq
 ·split at hq
  ·rename_i hc;split at hq
   ·rename_i hv;injection hq with hq;injection hq with h1 h2;subst h1;exact tF hc (by simpa using hv) k
   ·cases hq
  ·cases hq
 ·split at hq
  ·rename_i hv;injection hq with hq;injection hq with h1 h2;subst h1;exact Y_not hv k
  ·cases hq
 ·split at hq
  ·rename_i h1 h2
   split at hq
   ·rename_i hk hc
    injection hq with hq;injection hq with h3 h4;subst h3
    obtain rfl:=kdq_eq hk
    exact My h1 h2 (pW hc).1 (pW hc).2 k
   ·cases hq
  ·cases hq
 ·split at hq
  ·rename_i s o i h b j e m h0 hv hf
   obtain ⟨rfl,rfl⟩:=ff_eq hf
   cases hb:Nat.beq (j+e.n) m with
   | true =>
    rw [hb] at hq;injection hq with hq;injection hq with h1 h2;subst h1
    exact Fq e.h hv (Aam hb) k
   | false=>rw [hb] at hq;cases hq
  ·cases hq
 ·split at hq
  ·rename_i t o h b j e m h0 hv hf
   obtain rfl:=tf_eq hf
   split at hq
   ·rename_i b' y cs hi
    cases hb:e.b with
    | true =>
     rw [hb] at hq
     simp only [cond_true] at hq
     split at hq
     ·rename_i vs hvs
      cases hn:Nat.beq vs.length e.n with
      | true =>
       rw [hn] at hq;injection hq with hq;injection hq with h1 h2;injection h2 with h2 h3;subst h1;subst h2
       have:b=b':=by unfold eqs at he;injection he
       subst this
       exact pI m (by have:=e.hb;rwa [hb] at this) (e.hn hb) hv hi (dL hvs) (Aam hn) k
      | false=>rw [hn] at hq;cases hq
     ·cases hq
    | false =>
     rw [hb] at hq
     simp only [cond_false] at hq
     split at hq
     ·rename_i u hu
      injection hq with hq;injection hq with h1 h2;injection h2 with h2 h3;subst h1;subst h2
      have:b=b':=by unfold eqs at he;injection he
      subst this
      exact Ej m (by have:=e.hb;rwa [hb] at this) hv hi hu k
     ·cases hq
   ·cases hq
  ·cases hq
 ·split at hq
  ·rename_i hv hf
   obtain ⟨e,he'⟩:=sf_eq hf
   injection hq with hq;injection hq with h1 h2;subst h1
   exact wC he' hv k
  ·cases hq
 ·cases hq
end
inductive Md
 | cd (c:Code)
 | op (ops:Array Oper) (l:List Oper)
 | q (e:Exit)
inductive It
 | cd (d:Code)
 | bk (id:Nat)
@[reducible] def sqs (x:Cx):List It→(Exit→Env→World→Prop)→Exit→Env→World→Prop
 | [],Q=>Q
 | .cd d::ds,Q=>sq (T x d (sqs x ds Q)) (sqs x ds Q)
 | .bk i::ds,Q=>bk i (sqs x ds Q)
@[reducible] def At (x:Cx) (m:Md) (Q:Exit→Env→World→Prop) (E:Env) (w:World):Prop :=
 match m with
 | .cd c=>T x c Q E w
 | .op ops l=>O x ops Q l E w
 | .q e=>Q e E w
def pop:List It→Exit→Md×List It
 | [],e=>(.q e,[])
 | .cd d::ds,e=>(match e with
  | .normal=>(.cd d,ds)
  | e=>pop ds e)
 | .bk i::ds,e=>(match e with
  | .exit j=>bif Nat.beq j i then pop ds .normal else pop ds (.exit j)
  | e=>pop ds e)
theorem Uh {x:Cx} {Q:Exit→Env→World→Prop} {E:Env} {w:World}:∀ {ds ds':List It} {e:Exit} {m:Md},pop ds e=(m,ds')→At x m (sqs x ds' Q) E w→sqs x ds Q e E w:=by
 intro ds
 induction ds with
 | nil=>intro _ _ _ h k;injection h with h1 h2;subst h1;subst h2;exact k
 | cons a ds ih =>
  intro ds' e m h k
  unfold pop at h
  cases a with
  | cd d =>
   cases e with
   | normal=>injection h with h1 h2;subst h1;subst h2;exact k
   | _=>exact ih h k
  | bk i =>
   cases e with
   | exit j =>
    simp only at h
    show bif Nat.beq j i then sqs x ds Q .normal E w else sqs x ds Q (.exit j) E w
    cases hb:Nat.beq j i with
    | true=>rw [hb] at h;exact ih h k
    | false=>rw [hb] at h;exact ih h k
   | _=>exact ih h k
def kp (L:List (Nat×Value)):List Nat→Option (List (Nat×Value)×List Nat)
 | []=>none
 | 0::h=>some (L,h)
 | k::h=>match Sk L (h.take k) with
  | some L=>some (L,h.drop k)
  | none=>none
theorem kp_ok {L L':List (Nat×Value)} {h h':List Nat} (hk:kp L h=some (L',h')):L'=L∨Jq L' L:=by
 unfold kp at hk
 split at hk
 ·cases hk
 ·injection hk with hk;injection hk with h1 h2;exact .inl h1.symm
 ·split at hk
  ·rename_i he;injection hk with hk;injection hk with h1 h2;subst h1;exact .inr (Mk he)
  ·cases hk
theorem O_sub {x:Cx} {ops:Array Oper} {Q:Exit→Env→World→Prop} {l:List Oper} {D:List Deferred} {L M:List (Nat×Value)} {w:World} (hs:Jq L M) (h:O x ops Q l ⟨D,L⟩ w):O x ops Q l ⟨D,M⟩ w :=
 fun hd a ha=>h hd a (ha.sub (E:=⟨D,M⟩) hs)
def qc (F:Tq P) (N:Nat) (H:List Res) (D:List Deferred):Nat→Md→List It→List (Nat×Value)→List Nat→Option (Md×List It×List (Nat×Value)×List (Nat×Nat))
 | 0,m,ds,L,_=>some (m,ds,L,[])
 | n+1,.op ops l,ds,L,h=>(match l with
  | []=>(match kp L h with
   | some (L,h)=>(match pop ds .normal with|(m,ds)=>qc F N H D n m ds L h)
   | none=>none)
  | ⟨some t,op,_,_,_,g⟩::l=>(match g with
   | none=>(match qv F H ⟨D,L⟩ op h with
    | some (v,es,h)=>(match qc F N H D n (.op ops l) ds ((t,v)::L) h with
     | some (m,ds,L,es')=>some (m,ds,L,es++es')
     | none=>none)
    | none=>none)
   | some (j,b)=>(match (ops[j]?).bind (·.dst) with
    | some d=>(match Em L d with
     | some (.bool b')=>bif b' == b then (match qv F H ⟨D,L⟩ op h with
       | some (v,es,h)=>(match qc F N H D n (.op ops l) ds ((t,v)::L) h with
        | some (m,ds,L,es')=>some (m,ds,L,es++es')
        | none=>none)
       | none=>none)
      else qc F N H D n (.op ops l) ds ((t,undef)::L) h
     | _=>none)
    | none=>none))
  | _=>none)
 | n+1,.cd c,ds,L,h=>(match c with
  | .seq a b=>qc F N H D n (.cd a) (.cd b::ds) L h
  | .region _ ⟨l⟩ false=>bif Mu N l then qc F N H D n (.op ⟨l⟩ l) ds L h else none
  | .cond c p q=>(match ev ⟨D,L⟩ c with
   | some (.bool true)=>qc F N H D n (.cd p) ds L h
   | some (.bool false)=>qc F N H D n (.cd q) ds L h
   | _=>none)
  | .block i c=>qc F N H D n (.cd c) (.bk i::ds) L h
  | .skip=>(match pop ds .normal with|(m,ds)=>qc F N H D n m ds L h)
  | .exit i=>(match pop ds (.exit i) with|(m,ds)=>qc F N H D n m ds L h)
  | _=>none)
 | _+1,.q _,_,_,_=>none
section
variable {N:Nat} {r:Option Nat} {Q:Exit→Env→World→Prop} {D:List Deferred} {c:Ctx} {G:Ah} {H:List Res} {w:World} {F:Tq P}
theorem wR (hs:St c G H w):∀ {n:Nat} {m m':Md} {ds ds':List It} {L L':List (Nat×Value)} {h:List Nat} {es:List (Nat×Nat)},
  qc F N H D n m ds L h=some (m',ds',L',es)→eqs es→At ⟨P,N,r⟩ m' (sqs ⟨P,N,r⟩ ds' Q) ⟨D,L'⟩ w→At ⟨P,N,r⟩ m (sqs ⟨P,N,r⟩ ds Q) ⟨D,L⟩ w:=by
 intro n
 induction n with
 | zero =>
  intro m m' ds ds' L L' h es hq he k
  unfold qc at hq;injection hq with hq;injection hq with h1 h2;injection h2 with h2 h3;injection h3 with h3 h4;subst h1;subst h2;subst h3;exact k
 | succ n ih =>
  intro m m' ds ds' L L' h es hq he k
  cases m with
  | op ops l =>
   unfold qc at hq
   split at hq
   ·split at hq
    ·rename_i hk
     rcases kp_ok hk with rfl | hk
     ·exact Cr (Uh rfl (ih hq he k))
     ·exact O_sub hk (Cr (Uh rfl (ih hq he k)))
    ·cases hq
   ·split at hq
    ·split at hq
     ·rename_i hv
      split at hq
      ·rename_i hr
       injection hq with hq;injection hq with h1 h2;injection h2 with h2 h3;injection h3 with h3 h4;subst h1;subst h2;subst h3;subst h4
       obtain ⟨e1,e2⟩:=fF he
       exact O_y hs (wQ hv e1 (ih hr e2 k)) (qv_nd hv)
      ·cases hq
     ·cases hq
    ·rename_i t op _ _ _ g l0 j b
     split at hq
     ·rename_i d hd
      split at hq
      ·rename_i b' hb
       cases hbb:(b' == b) with
       | true =>
        rw [hbb] at hq
        simp only [cond_true] at hq
        split at hq
        ·rename_i hv
         split at hq
         ·rename_i hr
          injection hq with hq;injection hq with h1 h2;injection h2 with h2 h3;injection h3 with h3 h4;subst h1;subst h2;subst h3;subst h4
          obtain ⟨e1,e2⟩:=fF he
          have hb2:b'=b:=by simpa using hbb
          exact O_yy d hs hd (hb2▸hb) (wQ hv e1 (ih hr e2 k)) (qv_nd hv)
         ·cases hq
        ·cases hq
       | false =>
        rw [hbb] at hq
        have hb2:b'=!b:=by cases b<;>cases b'<;>simp_all
        exact O_no d hd (hb2▸hb) (ih hq he k)
      ·cases hq
     ·cases hq
   ·cases hq
  | cd c =>
   unfold qc at hq
   split at hq
   ·exact T_seq (ih hq he k)
   ·rename_i l
    cases hd:Mu N l with
    | true=>rw [hd] at hq;exact iE hd (ih hq he k)
    | false=>rw [hd] at hq;cases hq
   ·split at hq
    ·rename_i hv;exact pC hv (ih hq he k)
    ·rename_i hv;exact pD hv (ih hq he k)
    ·cases hq
   ·exact Kd (ih hq he k)
   ·exact Og (Uh rfl (ih hq he k))
   ·exact mM (Uh rfl (ih hq he k))
   ·cases hq
  | q e=>unfold qc at hq;cases hq
end
theorem Zx {x:Cx} {ops:Array Oper} {Q:Exit→Env→World→Prop} {D:List Deferred} {M L:List (Nat×Value)} {w:World} {I:Nat→Env→World→Prop} {m n:Nat} (ks:List Nat) (h:Sk M ks=some L) (hI:I m ⟨D,L⟩ w) (hm:m<n:=by omega):O x ops (sqs x [] (lp I n Q)) [] ⟨D,M⟩ w :=
 Cr ⟨m,hm,L,Mk h,hI⟩
def qa (F:Tq P) (H:List Res) (ops:Array Oper) (D:List Deferred):List Nat→List (Nat×Value)→List Nat→Option (List (Nat×Value)×List (Nat×Nat))
 | [],L,_=>some (L,[])
 | i::n,L,h=>match ops[i]? with
  | some ⟨some t,op,ty,pos,aft,g⟩=>(match gd ops ⟨some t,op,ty,pos,aft,g⟩ ⟨D,L⟩ with
   | some true=>(match qv F H ⟨D,L⟩ op h with
    | some (v,es,h)=>(match qa F H ops D n ((t,v)::L) h with
     | some (L,es')=>some (L,es++es')
     | none=>none)
    | none=>none)
   | some false=>qa F H ops D n ((t,undef)::L) h
   | none=>none)
  | _=>none
def qt (ops:Array Oper) (pre:List Nat):Array Bool→List Nat→Bool
 | _,[]=>true
 | li,i::n=>Ue ops pre li i && qt ops pre (li.setIfInBounds i true) n
def qs (li:Array Bool):List Nat→Array Bool
 | []=>li
 | i::n=>qs (li.setIfInBounds i true) n
section
variable {N:Nat} {r:Option Nat} {ops:Array Oper} {pre:List Nat} {Q:Exit→Env→World→Prop} {D:List Deferred} {c:Ctx} {G:Ah} {H:List Res} {w:World} {F:Tq P}
theorem qa_ok (hs:St c G H w):∀ {n:List Nat} {fu:Nat} {li:Array Bool} {L L':List (Nat×Value)} {h:List Nat} {es:List (Nat×Nat)},
  qa F H ops D n L h=some (L',es)→eqs es→qt ops pre li n=true→A ⟨P,N,r⟩ ops pre (St c G H) Q fu (qs li n) ⟨D,L'⟩ w→A ⟨P,N,r⟩ ops pre (St c G H) Q (fu+n.length) li ⟨D,L⟩ w:=by
 intro n
 induction n with
 | nil =>
  intro fu li L L' h es hq he ht k
  unfold qa at hq;injection hq with hq;injection hq with h1 h2;subst h1;exact k
 | cons i n ih =>
  intro fu li L L' h es hq he ht k
  unfold qt at ht
  rw [Aah] at ht
  unfold qa at hq
  split at hq
  ·rename_i hi
   split at hq
   ·rename_i hg
    split at hq
    ·rename_i hv
     split at hq
     ·rename_i hr
      injection hq with hq;injection hq with h1 h2;subst h1;subst h2
      obtain ⟨e1,e2⟩:=fF he
      exact wA i hi ht.1 hg hs (wQ hv e1 (ih hr e2 ht.2 k))
     ·cases hq
    ·cases hq
   ·rename_i hg
    exact A_skip i hi ht.1 hg hs (ih hq he ht.2 k)
   ·cases hq
  ·cases hq
theorem qa_le (hs:St c G H w) {n:List Nat} {fu:Nat} {li:Array Bool} {L L':List (Nat×Value)} {h:List Nat} {es:List (Nat×Nat)}
  (hq:qa F H ops D n L h=some (L',es)) (he:eqs es) (ht:(qt ops pre li n && Nat.ble n.length fu)=true) (k:A ⟨P,N,r⟩ ops pre (St c G H) Q (fu-n.length) (qs li n) ⟨D,L'⟩ w):A ⟨P,N,r⟩ ops pre (St c G H) Q fu li ⟨D,L⟩ w:=by
 rw [Aah] at ht
 have h2:n.length≤fu:=AcA ht.2
 have:=qa_ok hs (fu:=fu-n.length) hq he ht.1 k
 rwa [Nat.sub_add_cancel h2] at this
end
end Go.Ex
