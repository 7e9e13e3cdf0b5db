/- Part 3 of the walk through the functions that the laws of package fleet call: each function's contract, without conditions but those that its statement names. -/
import Derived.Test.YtmohebpaonkaeaaGreatDoorMB
set_option maxHeartbeats 4000000
set_option maxRecDepth 10000
set_option linter.unusedVariables false
set_option linter.unusedSimpArgs false
set_option linter.unusedSectionVars false
namespace Go.Proofs.YtmohebpaonkaeaaGreatDoor
open Go Go.Ex
open Cn7
def Qv (n:Nt):Nat→List Nat→List Nat→Option (List Nat)
 | 0,_,_=>none
 | f+1,seen,stack =>
  match stack.getLast? with
  | none=>some seen
  | some s=>if s∈seen then Qv n f seen stack.dropLast else Qv n f (seen++[s]) (stack.dropLast++n.free.getD s [])
def uF (x:Nat):List Nat→List Nat
 | []=>[x]
 | y::l=>if x≤y then x::y::l else y::uF x l
def dT (l:List Nat):List Nat:=l.foldr uF []
def cU (n:Nt) (set:List Nat):Option (List Nat):=(Qv n (set.length+(n.free.map List.length).sum+1) [] set).map dT
def La (m:List (UInt8×List Nat)) (b:UInt8):List Nat:=match m.find? (fun e=>decide (e.1=b)) with
 | none=>[]
 | some e=>e.2
def jQ (n:Nt) (S:List Nat) (b:UInt8):List Nat:=S.flatMap fun s=>La (n.read.getD s []) b
def fS (n:Nt) (S:List Nat) (b:Nat):List Nat:=(cU n (jQ n S (UInt8.ofNat b))).getD []
def Qw (n:Nt) (B:List Nat):Nat→Nat→List (List Nat)→List (List Nat)→Option (Option (List (List Nat)×List (List Nat)))
 | 0,_,_,_=>none
 | f+1,i,l,rows =>
  match l[i]? with
  | none=>some (some (l,rows))
  | some S =>
   if 4096<(B.foldl (fun st b=>exS (fS n S b) st) (l,[])).1.length then some none
   else Qw n B f (i+1) (B.foldl (fun st b=>exS (fS n S b) st) (l,[])).1 (rows++[(B.foldl (fun st b=>exS (fS n S b) st) (l,[])).2])
def Nj (S:List Nat):Bool:=S.contains 0
def cV (t:Tr) (d:Cy):Option (Option Cy) :=
 match Eu (Av d) with
 | none=>none
 | some c=>match jP t (Av c) with
  | none=>none
  | some (n,first)=>match cU n [first] with
   | none=>none
   | some S0=>match Qw n (List.range 256) 5000 0 [S0] [] with
    | none=>none
    | some none=>some none
    | some (some (l,rows))=>minF rows (l.map Nj)
namespace Cn7
inductive Fr (n:Nt):Nat→Nat→Prop
 | nil (s:Nat):Fr n s s
 | step {s to r:Nat}:to∈n.free.getD s []→Fr n to r→Fr n s r
theorem Fr.snoc {n:Nt} {a b c:Nat} (h:Fr n a b) (h2:c∈n.free.getD b []):Fr n a c:=by
 induction h with
 | nil s=>exact .step h2 (.nil c)
 | step h3 _ ih=>exact .step h3 (ih h2)
theorem Fr.trans {n:Nt} {a b c:Nat} (h:Fr n a b) (h2:Fr n b c):Fr n a c:=by
 induction h with
 | nil s=>exact h2
 | step h3 _ ih=>exact .step h3 (ih h2)
structure NtR (n:Nt):Prop where
 ok:NtOk n
 rg:∀ s b to,Edge n s b to→to<n.read.length∧s<n.read.length
def rest (n:Nt) (seen:List Nat):Nat:=((List.range n.free.length).map fun s=>if s∈seen then 0 else (n.free.getD s []).length).sum
theorem qV:∀ {l:List Nat} {f g:Nat→Nat} {s:Nat},l.Nodup→s∈l→(∀ x∈l,x≠s→f x=g x)→g s=0→(l.map f).sum=(l.map g).sum+f s
 | x::l,f,g,s,hn,hs,h,h0=>by
  rw [Aar,Aar,List.sum_cons,List.sum_cons]
  have hn':=AbT.1 hn
  rcases AaV.1 hs with rfl | hs
  ·have e:l.map f=l.map g:=AbX fun y hy=>h y (AaG _ hy) fun e=>hn'.1 (e▸hy)
   rw [e,h0];omega
  ·have e:=h x AaK fun e=>hn'.1 (e▸hs)
   have ih:=qV hn'.2 hs (fun y hy=>h y (AaG _ hy)) h0
   omega
theorem uG {n:Nt} {seen:List Nat} {s:Nat} (hs:s<n.free.length) (hno:s∉seen):rest n seen=rest n (seen++[s])+(n.free.getD s []).length:=by
 unfold rest
 rw [qV (s:=s) (g:=fun x=>if x∈seen++[s] then 0 else (n.free.getD x []).length) List.nodup_range (Aae.2 hs) (fun x _ hx=>by
  by_cases h:x∈seen
  ·rw [if_pos h,if_pos (AaY _ h)]
  ·rw [if_neg h,if_neg (fun h2=>by
    rcases AaS.1 h2 with h3 | h3
    ·exact h h3
    ·exact hx (AaE.1 h3))]) Di,if_neg hno]
theorem yI (n:Nt):rest n []=(n.free.map List.length).sum:=by
 unfold rest
 congr 1
 refine Abb Di fun i h1 h2=>?_
 rw [Aaa,Aaa,Abs,if_neg Di,gD (by simpa using h2)]
theorem fT {n:Nt} (h:NtR n) {set:List Nat}:∀ (f:Nat) (seen stack:List Nat),seen.Nodup→(∀ s∈stack,s<n.read.length)→(∀ s∈seen,s<n.read.length)→stack.length+rest n seen<f →
  (∀ s∈seen++stack,∃ a∈set,Fr n a s)→(∀ a∈set,a∈seen++stack)→(∀ s∈seen,∀ to∈n.free.getD s [],to∈seen++stack) →
  ∃ l,Qv n f seen stack=some l∧l.Nodup∧(∀ s∈l,s<n.read.length)∧∀ s,s∈l↔∃ a∈set,Fr n a s
 | 0,_,_,_,_,_,hf,_,_,_=>by omega
 | f+1,seen,stack,hn,h1,h2,hf,h3,h4,h5=>by
  rw [Qv]
  cases hl:stack.getLast? with
  | none =>
   have:stack=[]:=List.getLast?_eq_none_iff.1 hl
   subst this
   dsimp only
   rw [AaX] at h3 h4 h5
   have key:∀ a s,Fr n a s→a∈seen→s∈seen:=by
    intro a s hfr
    induction hfr with
    | nil s=>exact fun h=>h
    | step h6 _ ih=>exact fun h=>ih (h5 _ h _ h6)
   exact ⟨seen,rfl,hn,h2,fun s=>⟨h3 s,fun ⟨a,ha,hfr⟩=>key a s hfr (h4 a ha)⟩⟩
  | some s =>
   obtain ⟨st,hst⟩:∃ st,stack=st++[s]:=by
    rcases List.eq_nil_or_concat stack with h0 | ⟨st,x,h0⟩
    ·rw [h0] at hl;cases hl
    ·rw [List.concat_eq_append] at h0
     rw [h0,List.getLast?_concat] at hl
     injection hl with hl
     exact ⟨st,by rw [h0,hl]⟩
   subst hst
   dsimp only
   rw [List.dropLast_concat]
   rw [AaB,Aac] at hf
   by_cases hin:s∈seen
   ·rw [if_pos hin]
    have hsub:∀ x,x∈seen++(st++[s])→x∈seen++st:=fun x hx=>by
     rcases AaS.1 hx with hx | hx
     ·exact AaY _ hx
     ·rcases AaS.1 hx with hx | hx
      ·exact AbF _ hx
      ·rw [AaE.1 hx];exact AaY _ hin
    exact fT h f seen st hn (fun x hx=>h1 x (AaY _ hx)) h2 Bm (fun x hx=>h3 x (by
     rcases AaS.1 hx with hx | hx
     ·exact AaY _ hx
     ·exact AbF _ (AaY _ hx))) (fun a ha=>hsub a (h4 a ha)) fun x hx to hto=>hsub to (h5 x hx to hto)
   ·rw [if_neg hin]
    have hsn:=h1 s Di
    have hrs:=uG (n:=n) (seen:=seen) (s:=s) (by rw [h.ok.fl];exact hsn) hin
    have hfs:∃ a∈set,Fr n a s:=h3 s Di
    have hup:∀ x,x∈seen++(st++[s])→x∈(seen++[s])++(st++n.free.getD s []):=fun x hx=>by
     simp only [AaS,AaE] at hx ⊢
     rcases hx with hx | hx | hx
     ·exact .inl (.inl hx)
     ·exact .inr (.inl hx)
     ·exact .inl (.inr hx)
    refine fT h f (seen++[s]) (st++n.free.getD s []) ?_ (fun x hx=>?_) (fun x hx=>?_) ?_ (fun x hx=>?_) (fun a ha=>hup a (h4 a ha)) (fun x hx to hto=>?_)
    ·rw [AbQ]
     exact ⟨hn,by simp,fun a ha b hb e=>hin Z35⟩
    ·rcases AaS.1 hx with hx | hx
     ·exact h1 x (AaY _ hx)
     ·exact (h.rg s none x hx).1
    ·rcases AaS.1 hx with hx | hx
     ·exact h2 x hx
     ·rw [AaE.1 hx];exact hsn
    ·rw [AaB];omega
    ·simp only [AaS,AaE] at hx
     rcases hx with (hx | hx) | hx | hx
     ·exact h3 x pB
     ·rw [hx];exact hfs
     ·exact h3 x pB
     ·obtain ⟨a,ha,hfa⟩:=hfs
      exact ⟨a,ha,hfa.snoc hx⟩
    ·rcases AaS.1 hx with hx | hx
     ·exact hup to (h5 x hx to hto)
     ·rw [AaE.1 hx] at hto
      exact AbF _ (AbF _ hto)
theorem Uw (x:Nat):∀ l:List Nat,(uF x l).Perm (x::l)
 | []=>List.Perm.refl _
 | y::l=>by
  rw [uF];split
  ·exact List.Perm.refl _
  ·exact ((Uw x l).cons y).trans (List.Perm.swap x y l)
theorem sortN_perm:∀ l:List Nat,(dT l).Perm l
 | []=>List.Perm.refl _
 | x::l=>(Uw x _).trans ((sortN_perm l).cons x)
theorem Wg (x:Nat):∀ {l:List Nat},l.Pairwise (·≤·)→(uF x l).Pairwise (·≤·)
 | [],_=>List.pairwise_singleton _ _
 | y::l,h=>by
  have h':=AbO.1 h
  rw [uF];split
  ·rename_i hle
   refine AbO.2 ⟨fun z hz=>?_,h⟩
   rcases AaV.1 hz with rfl | hz
   ·exact hle
   ·exact Aai hle (h'.1 z hz)
  ·refine AbO.2 ⟨fun z hz=>?_,Wg x h'.2⟩
   rcases AaV.1 ((Uw x l).mem_iff.1 hz) with rfl | hz
   ·omega
   ·exact h'.1 z hz
theorem sortN_sorted:∀ l:List Nat,(dT l).Pairwise (·≤·)
 | []=>List.Pairwise.nil
 | x::l=>Wg x (sortN_sorted l)
def Inc (l:List Nat):Prop:=l.Pairwise (·<·)
theorem inc_of {l:List Nat} (hn:l.Nodup) (h:l.Pairwise (·≤·)):Inc l:=by
 have:=List.Pairwise.and h hn
 exact this.imp fun {a b} h=>Nat.lt_of_le_of_ne h.1 h.2
theorem clo_ok {n:Nt} (h:NtR n) {set:List Nat} (hs:∀ s∈set,s<n.read.length):∃ l,cU n set=some l∧Inc l∧(∀ s∈l,s<n.read.length)∧∀ s,s∈l↔∃ a∈set,Fr n a s:=by
 obtain ⟨l,e,h1,h2,h3⟩:=fT h (set:=set) (set.length+(n.free.map List.length).sum+1) [] set Aaz hs (fun s hs=>by cases hs) (by rw [yI];omega) (fun s hs=>⟨s,hs,.nil s⟩) (fun a ha=>ha) fun s hs=>by cases hs
 have hp:=sortN_perm l
 exact ⟨dT l,by unfold cU;rw [e];rfl,inc_of (hp.nodup_iff.2 h1) (sortN_sorted l),fun s hs=>h2 s (hp.mem_iff.1 hs),fun s=>hp.mem_iff.trans (h3 s)⟩
theorem jR {m:List (UInt8×List Nat)} (hn:(m.map (·.1)).Nodup) {b:UInt8} {to:Nat}:to∈La m b↔∃ l,(b,l)∈m∧to∈l:=by
 unfold La
 cases hf:m.find? (fun e=>decide (e.1=b)) with
 | none =>
  dsimp only
  refine ⟨(fun h=>by cases h),fun ⟨l,h1,_⟩=>?_⟩
  have:=List.find?_eq_none.1 hf _ h1
  simp at this
 | some e =>
  dsimp only
  have h1:=List.find?_some hf
  have h2:=List.mem_of_find?_eq_some hf
  rw [decide_eq_true_eq] at h1
  constructor
  ·intro h;exact ⟨e.2,by rw [← h1];exact h2,h⟩
  ·rintro ⟨l,h3,h4⟩
   obtain ⟨i,hi,hie⟩:=AaQ.1 h2
   obtain ⟨j,hj,hje⟩:=AaQ.1 h3
   have hij:i=j:=by
    refine (List.getElem_inj (h₀:=by rw [AaC];exact hi) (h₁:=by rw [AaC];exact hj) hn).1 ?_
    rw [Aaa,Aaa,hie,hje,h1]
   subst hij
   rw [hie] at hje
   rw [hje];exact h4
theorem tg_mem {n:Nt} (h:NtR n) {S:List Nat} (hS:∀ s∈S,s<n.read.length) {b:UInt8} {to:Nat}:to∈jQ n S b↔∃ s∈S,Edge n s (some b) to:=by
 unfold jQ
 rw [Abh]
 constructor
 ·rintro ⟨s,hs,h1⟩
  refine ⟨s,hs,(jR ?_).1 h1⟩
  rw [gD (hS s hs)];exact h.ok.kd _ (AaD _)
 ·rintro ⟨s,hs,h1⟩
  refine ⟨s,hs,(jR ?_).2 h1⟩
  rw [gD (hS s hs)];exact h.ok.kd _ (AaD _)
structure SOk (n:Nt) (S:List Nat):Prop where
 inc:Inc S
 lt:∀ s∈S,s<n.read.length
 cl:∀ s∈S,∀ r,Fr n s r→r∈S
theorem nx_ok {n:Nt} (h:NtR n) {S:List Nat} (hS:SOk n S) (b:Nat):SOk n (fS n S b)∧cU n (jQ n S (UInt8.ofNat b))=some (fS n S b)∧∀ r,r∈fS n S b↔∃ s∈S,∃ to,Edge n s (some (UInt8.ofNat b)) to∧Fr n to r:=by
 have ht:=fun {to}=>tg_mem h hS.lt (b:=UInt8.ofNat b) (to:=to)
 obtain ⟨l,e,h1,h2,h3⟩:=clo_ok h (set:=jQ n S (UInt8.ofNat b)) fun to hto=>by
  obtain ⟨s,_,he⟩:=ht.1 hto
  exact (h.rg _ _ _ he).1
 have el:fS n S b=l:=by unfold fS;rw [e];rfl
 rw [el]
 refine ⟨⟨h1,h2,fun s hs r hr=>?_⟩,e,fun r=>?_⟩
 ·obtain ⟨a,ha,hf⟩:=(h3 s).1 hs
  exact (h3 r).2 ⟨a,ha,hf.trans hr⟩
 ·rw [h3 r]
  constructor
  ·rintro ⟨a,ha,hf⟩
   obtain ⟨s,hs,he⟩:=ht.1 ha
   exact ⟨s,hs,a,he,hf⟩
  ·rintro ⟨s,hs,to,he,hf⟩
   exact ⟨to,ht.2 ⟨s,hs,he⟩,hf⟩
noncomputable def semI (n:Nt) (S:List Nat) (w:List UInt8):Bool:=@decide (∃ s∈S,Gz n s w 0) (Classical.propDecidable _)
theorem semI_iff {n:Nt} {S:List Nat} {w:List UInt8}:semI n S w=true↔∃ s∈S,Gz n s w 0:=@decide_eq_true_iff _ (Classical.propDecidable _)
theorem yJ {n:Nt} {s r:Nat}:Gz n s [] r↔Fr n s r:=by
 constructor
 ·intro h
  generalize hw:([]:List UInt8)=w at h
  induction h with
  | nil s=>exact .nil s
  | free h1 _ ih=>exact .step h1 (ih hw)
  | read _ _ _ _=>cases hw
 ·intro h
  induction h with
  | nil s=>exact .nil s
  | step h1 _ ih=>exact .free h1 ih
theorem dU {n:Nt} {s r:Nat} {b:UInt8} {w:List UInt8}:Gz n s (b::w) r↔∃ q to,Fr n s q∧Edge n q (some b) to∧Gz n to w r:=by
 constructor
 ·intro h
  generalize hw:b::w=u at h
  induction h with
  | nil s=>cases hw
  | free h1 _ ih =>
   obtain ⟨q,to,h2,h3,h4⟩:=ih hw
   exact ⟨q,to,.step h1 h2,h3,h4⟩
  | read h1 h2 h3 _ =>
   injection hw with e1 e2
   subst e1;subst e2
   exact ⟨_,_,.nil _,⟨_,h1,h2⟩,h3⟩
 ·rintro ⟨q,to,h1,⟨l,h2,h3⟩,h4⟩
  induction h1 with
  | nil s=>exact .read h2 h3 h4
  | step h5 _ ih=>exact .free h5 (ih h2)
theorem fr_path {n:Nt} {s q r:Nat} {w:List UInt8} (h:Fr n s q) (h2:Gz n q w r):Gz n s w r:=by
 induction h with
 | nil s=>exact h2
 | step h3 _ ih=>exact .free h3 (ih h2)
theorem semI_nil {n:Nt} {S:List Nat} (h:SOk n S):semI n S []=Nj S:=by
 unfold Nj
 rw [AbG,semI_iff,List.contains_iff_mem]
 constructor
 ·rintro ⟨s,hs,hp⟩
  exact h.cl s hs 0 (yJ.1 hp)
 ·intro h0;exact ⟨0,h0,.nil 0⟩
theorem semI_cons {n:Nt} (hn:NtR n) {S:List Nat} (h:SOk n S) (x:UInt8) (w:List UInt8):semI n S (x::w)=semI n (fS n S x.toNat) w:=by
 have hx:=(nx_ok hn h x.toNat).2.2
 rw [o8] at hx
 rw [AbG,semI_iff,semI_iff]
 constructor
 ·rintro ⟨s,hs,hp⟩
  obtain ⟨q,to,h1,h2,h3⟩:=dU.1 hp
  exact ⟨to,(hx to).2 ⟨q,h.cl s hs q h1,to,h2,.nil to⟩,h3⟩
 ·rintro ⟨r,hr,hp⟩
  obtain ⟨s,hs,to,he,hf⟩:=(hx r).1 hr
  exact ⟨s,hs,dU.2 ⟨s,to,.nil s,he,fr_path hf hp⟩⟩
theorem img_run {n:Nt} (hn:NtR n) {B:List Nat} {S0:List Nat}:∀ (f i:Nat) {l rows:List (List Nat)},EI B (fS n) (SOk n) S0 i l rows→l.length≤4096→4096<f+i →
  Qw n B f i l rows=some none∨∃ l' rows',Qw n B f i l rows=some (some (l',rows'))∧EI B (fS n) (SOk n) S0 l'.length l' rows'∧l'.length≤4096
 | 0,i,l,rows,h,hl,hf=>by have:=h.il;omega
 | f+1,i,l,rows,h,hl,hf=>by
  rw [Qw]
  cases hs:l[i]? with
  | none =>
   have hil:i=l.length:=by
    have:=h.il
    rcases AaM i l.length with h1 | h1
    ·rw [AaA h1] at hs;cases hs
    ·omega
   subst hil
   exact .inr ⟨l,rows,rfl,h,hl⟩
  | some S =>
   obtain ⟨m,e,h1⟩:=ei_row h hs fun b _=>(nx_ok hn (h.ok S (AaF hs)) b).1
   dsimp only
   rw [e]
   dsimp only
   by_cases hb:4096<(l++m).length
   ·rw [if_pos hb];exact .inl rfl
   ·rw [if_neg hb]
    exact img_run hn f (i+1) h1 Bm Bm
theorem img_ok {t:Tr} {d:Cy} (ht:TrOk t) (hd:DOk d) (h64:d.next.length≤64):∃ R,cV t d=some R∧∀ D,R=some D→Can D∧D.next.length≤64∧∀ w,lb (Av D) 0 w=true↔Out t (Av d) (0,0) w:=by
 obtain ⟨c,hc,hcan,hcn,hcl⟩:=canon_ok (tab_ok hd)
 have hcn':c.next.length≤d.next.length:=hcn
 obtain ⟨n,at_,ho,hok,hnl,hat,hrg,hpath⟩:=out_ok ht hcan.ok Bm
 have hn:NtR n:=⟨hok,hrg⟩
 obtain ⟨S0,hS0,s1,s2,s3⟩:=clo_ok hn (set:=[at_]) fun s hs=>by rw [AaE.1 hs];exact hat
 have hS0k:SOk n S0:=⟨s1,s2,fun s hs r hr=>by
  obtain ⟨a,ha,hf⟩:=(s3 s).1 hs
  exact (s3 r).2 ⟨a,ha,hf.trans hr⟩⟩
 unfold cV
 rw [hc];dsimp only
 rw [ho];dsimp only
 rw [hS0];dsimp only
 rcases img_run hn (B:=List.range 256) 5000 0 (ei_start hS0k) Di Bm with e | ⟨l,rows,e,E,hl⟩
 ·rw [e];exact ⟨none,rfl,fun D hD=>by cases hD⟩
 ·rw [e];dsimp only
  have hA:=ei_rows E Bm Nj
  obtain ⟨R,hR,_,hR2⟩:=min_ok hA fun s hs=>ei_reach E _ s (by rw [← E.rl];exact hs)
  refine ⟨R,hR,fun D hD=>?_⟩
  subst hD
  obtain ⟨h1,h2,h3⟩:=hR2.some
  refine ⟨h1,h2,fun w=>?_⟩
  rw [h3 w,ei_lang E (sem:=semI n) (fun s hs=>semI_nil hs) (fun s hs x w=>semI_cons hn hs x w) w 0 _ E.hd]
  rw [semI_iff]
  constructor
  ·rintro ⟨s,hs,hp⟩
   obtain ⟨a,ha,hf⟩:=(s3 s).1 hs
   rw [AaE.1 ha] at hf
   obtain ⟨x,hx1,hx2⟩:=(hpath w).1 (fr_path hf hp)
   exact ⟨x,hx1,by rw [← hcl x];exact hx2⟩
  ·rintro ⟨x,hx1,hx2⟩
   exact ⟨at_,(s3 at_).2 ⟨at_,by simp,.nil at_⟩,(hpath w).2 ⟨x,hx1,by rw [hcl x];exact hx2⟩⟩
end Cn7
def uH (n b:Nat):Nat:=if 97≤b∧b<97+n then b-97 else n
def letP (n:Nat) (l:List (List Nat)) (b:Nat):List (List Nat):=l.set (uH n b) (Hp (l.getD (uH n b) []) (UInt8.ofNat b))
def jS (n:Nat):List (List Nat):=(List.range 256).foldl (letP n) (List.replicate (n+1) [0,0,0,0])
structure Qe where
 size:Nat
 to:List UInt8
 acc:Nat
def Qe.n (x:Qe):Nat:=1+x.size % 5
def Qe.k (x:Qe):Nat:=1+x.size / 5 % 3
def toD (x:Qe) (i:Nat):Nat:=if i<x.to.length then (x.to.getD i 0).toNat % x.n else 0
def Ux (L:List (List Nat)) (x:Qe):Cy:=⟨L,(List.range x.n).map fun s=>(List.range (x.k+1)).map fun k=>toD x (s*(x.k+1)+k),(List.range x.n).map fun s=>decide (x.acc / 2 ^ s % 2=1)⟩
def Wh (x:Qe):Cy:=Ux (jS x.k) x
structure Jm where
 size:Nat
 to:List UInt8
 out:List UInt8
 final:Nat
 ends:List UInt8
def Jm.n (x:Jm):Nat:=1+x.size % 3
def Jm.k (x:Jm):Nat:=1+x.size / 3 % 2
def qW (x:Jm) (i:Nat):Int:=if i<x.to.length then (((x.to.getD i 0).toNat % (x.n+1):Nat):Int)-1 else 0
def Iw (z:Nat):Pc:=if z≤2 then ⟨true,0⟩ else ⟨false,UInt8.ofNat (97+z-3)⟩
def Ij (x:Jm) (i j:Nat):List Pc:=if 2*i+j<x.out.length∧0≤qW x i∧0<(x.out.getD (2*i+j) 0).toNat % 5 then [Iw ((x.out.getD (2*i+j) 0).toNat % 5)] else []
def mvT (x:Jm) (i:Nat):Mv:=⟨qW x i,Ij x i 0++Ij x i 1⟩
def Qf (x:Jm) (s:Nat):Bool:=decide (x.final / 2 ^ s % 2=1)
def Uy (x:Jm) (s:Nat):List UInt8:=if s<x.ends.length∧Qf x s=true then [UInt8.ofNat (97+(x.ends.getD s 0).toNat % 3),98].take ((x.ends.getD s 0).toNat / 3 % 3) else []
def Nl (L:List (List Nat)) (x:Jm):Tr:=⟨L,(List.range x.n).map fun s=>(List.range (x.k+1)).map fun k=>mvT x (s*(x.k+1)+k),(List.range x.n).map (Qf x),(List.range x.n).map (Uy x)⟩
def Mn (x:Jm):Tr:=Nl (jS x.k) x
def jT (b:UInt8):UInt8:=if b<97∨100<b then 97+b % 4 else b
def Lb (w:List UInt8) (n:Nat):List UInt8:=(w.take n).map jT
namespace Cn7
def qX:List (List Nat)→Bool
 | []=>true
 | c::l=>(l.all fun d=>(List.range 256).all fun b=>!(Bv c (UInt8.ofNat b) && Bv d (UInt8.ofNat b))) && qX l
def ptB (l:List (List Nat)):Bool:=(l.all fun c=>decide (c.length=4) && c.all fun w=>decide (w<W64)) && ((l.all fun c=>(List.range 256).any fun b=>Bv c (UInt8.ofNat b)) && (qX l && (List.range 256).all fun b=>l.any fun c=>Bv c (UInt8.ofNat b)))
theorem in256 (y:UInt8):y.toNat∈List.range 256:=Aae.2 y.toNat_lt
theorem jU:∀ {l:List (List Nat)},qX l=true→l.Pairwise fun a b=>∀ y,¬ (Bv a y=true∧Bv b y=true)
 | [],_=>List.Pairwise.nil
 | c::l,h=>by
  rw [qX,Aah,AbD] at h
  refine AbO.2 ⟨fun d hd y ⟨h1,h2⟩=>?_,jU h.2⟩
  have h3:=h.1 d hd
  rw [AbD] at h3
  have h4:=h3 y.toNat (in256 y)
  rw [o8,h1,h2] at h4
  cases h4
theorem ptB_ok {l:List (List Nat)} (h:ptB l=true):Pt l:=by
 unfold ptB at h
 simp only [Aah,AbD,decide_eq_true_eq,List.any_eq_true] at h
 obtain ⟨h1,h2,h3,h4⟩:=h
 refine ⟨fun c hc=>⟨(h1 c hc).1,(h1 c hc).2⟩,fun c hc=>?_,jU h3,fun y=>?_⟩
 ·obtain ⟨b,_,hb⟩:=h2 c hc
  exact ⟨_,hb⟩
 ·obtain ⟨c,hc,hy⟩:=h4 y.toNat (in256 y)
  exact ⟨c,hc,by rw [o8] at hy;exact hy⟩
theorem let_pt {n:Nat} (h:1≤n∧n≤3):Pt (jS n)∧(jS n).length=n+1:=by
 rcases (by omega:n=1∨n=2∨n=3) with rfl | rfl | rfl
 ·exact ⟨ptB_ok (by decide +kernel),by decide +kernel⟩
 ·exact ⟨ptB_ok (by decide +kernel),by decide +kernel⟩
 ·exact ⟨ptB_ok (by decide +kernel),by decide +kernel⟩
theorem rangeMap_getD {α:Type} {n i:Nat} {f:Nat→α} {d:α} (h:i<n):((List.range n).map f).getD i d=f i:=by
 rw [gD (by rw [AaC,AaO];exact h),Aaa,Abs]
theorem uI {L:List (List Nat)} {x:Qe} (hp:Pt L) (hl:L.length=x.k+1):DOk (Ux L x)∧(Ux L x).next.length≤5:=by
 have hn:1≤x.n∧x.n≤5:=by unfold Qe.n;omega
 have hk:1≤x.k∧x.k≤3:=by unfold Qe.k;omega
 have hP:=hp.part
 have hlen:(Ux L x).next.length=x.n:=by unfold Ux;rw [AaC,AaO]
 refine ⟨⟨by omega,by omega,?_,hP.k2,hP.c4,hP.ne,hP.un,hP.cv,fun r hr=>?_⟩,by omega⟩
 ·rw [hlen];unfold Ux;rw [AaC,AaO]
 ·rw [hlen]
  obtain ⟨s,_,rfl⟩:=Aaf.1 hr
  refine ⟨?_,fun y hy=>?_⟩
  ·rw [AaC,AaO];exact hl.symm
  ·obtain ⟨k,_,rfl⟩:=Aaf.1 hy
   unfold toD
   split
   ·exact Abz _ Bm
   ·omega
theorem madeD_ok (x:Qe):DOk (Wh x)∧(Wh x).next.length≤5:=by
 have hk:1≤x.k∧x.k≤3:=by unfold Qe.k;omega
 obtain ⟨hp,hl⟩:=let_pt hk
 exact uI hp hl
theorem yK (z:Nat):uB (Iw z)=true:=by
 unfold Iw
 split
 ·decide
 ·rfl
theorem out_len (x:Jm) (i j:Nat):(Ij x i j).length≤1∧(qW x i<0→Ij x i j=[])∧(Ij x i j).all uB=true:=by
 unfold Ij
 split
 ·rename_i h
  exact ⟨AaR _,fun h2=>by omega,by rw [List.all_cons,yK];rfl⟩
 ·exact ⟨by simp,fun _=>rfl,rfl⟩
theorem uJ {L:List (List Nat)} {x:Jm} (hp:Pt L) (hl:L.length=x.k+1):TrOk (Nl L x)∧(Nl L x).moves.length≤3:=by
 have hn:1≤x.n∧x.n≤3:=by unfold Jm.n;omega
 have hk:1≤x.k∧x.k≤3:=by unfold Jm.k;omega
 have hlen:(Nl L x).moves.length=x.n:=by unfold Nl;rw [AaC,AaO]
 refine ⟨⟨hp.part,by omega,by omega,?_,?_,fun r hr=>?_,fun s hs=>?_⟩,by omega⟩
 ·rw [hlen];unfold Nl;rw [AaC,AaO]
 ·rw [hlen];unfold Nl;rw [AaC,AaO]
 ·rw [hlen]
  obtain ⟨s,_,rfl⟩:=Aaf.1 hr
  refine ⟨by rw [AaC,AaO];exact hl.symm,fun m hm=>?_⟩
  obtain ⟨k,_,rfl⟩:=Aaf.1 hm
  generalize s*(x.k+1)+k=i
  obtain ⟨a1,a2,a3⟩:=out_len x i 0
  obtain ⟨b1,b2,b3⟩:=out_len x i 1
  have ht : -1≤qW x i∧qW x i<(x.n:Int):=by
   unfold qW
   split
   ·have:=Abz (x.to.getD i 0).toNat (show 0<x.n+1 by omega)
    omega
   ·omega
  refine mvB_iff.2 ⟨ht.1,ht.2,by show (Ij x i 0++Ij x i 1).length≤8;rw [AaB];omega,?_,?_⟩
  ·rcases Int.lt_or_le (qW x i) 0 with h | h
   ·right
    show (Ij x i 0++Ij x i 1).length≤0
    rw [a2 h,b2 h];exact AaR _
   ·exact .inl h
  ·show (Ij x i 0++Ij x i 1).all uB=true
   rw [List.all_append,a3,b3];rfl
 ·rw [hlen] at hs
  have e1:(Nl L x).ends.getD s []=Uy x s:=rangeMap_getD hs
  have e2:(Nl L x).final.getD s false=Qf x s:=rangeMap_getD hs
  rw [e1,e2]
  unfold Uy
  split
  ·rename_i h
   refine ⟨?_,.inl h.2⟩
   have:=List.length_take_le ((x.ends.getD s 0).toNat / 3 % 3) [UInt8.ofNat (97+(x.ends.getD s 0).toNat % 3),98]
   omega
  ·exact ⟨by simp,.inr Di⟩
theorem madeT_ok (x:Jm):TrOk (Mn x)∧(Mn x).moves.length≤3:=by
 have hk:1≤x.k∧x.k≤3:=by unfold Jm.k;omega
 obtain ⟨hp,hl⟩:=let_pt hk
 exact uJ hp hl
end Cn7
def Hu (a:Nat):Nat→Nat→List Nat
 | 0,_=>[]
 | n+1,k=>(k / a ^ n % a)::Hu a n k
def Ik (a:Nat):List Nat→List Nat×Bool
 | []=>([],false)
 | d::l=>if (Ik a l).2=true then (d::(Ik a l).1,true) else ((d+1) % a::(Ik a l).1,decide (0<(d+1) % a))
def Hv (al:List UInt8) (n k:Nat):List UInt8:=(Hu al.length n k).map fun i=>al.getD i 0
def Hw (al:List UInt8) (most:Nat):List (List UInt8):=(List.range (most+1)).flatMap fun n=>(List.range (al.length ^ n)).map (Hv al n)
def Tf:List UInt8→List UInt8→Bool
 | x::a,y::b=>if x=y then Tf a b else decide (x<y)
 | _,_=>false
def Lc (a b:List UInt8):Bool:=if a.length=b.length then Tf a b else decide (a.length<b.length)
def Ip (t u:Tr) (w:List UInt8):Bool:=decide (¬ Bo t 0 w=Bo u 0 w)
def Gi (t u:Tr) (al:List UInt8) (most:Nat):Option (List UInt8):=(Hw al most).find? (Ip t u)
namespace Cn7
theorem dig_len (a:Nat):∀ n k,(Hu a n k).length=n
 | 0,_=>rfl
 | n+1,k=>by rw [Hu,AaZ,dig_len a n k]
theorem dig_lt {a:Nat} (ha:0<a):∀ n k,∀ d∈Hu a n k,d<a
 | 0,_,d,hd=>by cases hd
 | n+1,k,d,hd=>by
  rw [Hu] at hd
  rcases AaV.1 hd with rfl | hd
  ·exact Abz _ ha
  ·exact dig_lt ha n k d hd
theorem dig_zero (a:Nat):∀ n,Hu a n 0=List.replicate n 0
 | 0=>rfl
 | n+1=>by rw [Hu,dig_zero a n,AbY];simp
theorem Pv {a:Nat} (ha:0<a) {n:Nat}:∀ (m q r:Nat),m≤n→Hu a m (a ^ n*q+r)=Hu a m r
 | 0,_,_,_=>rfl
 | m+1,q,r,hm=>by
  rw [Hu,Hu,Pv ha m q r Bm]
  obtain ⟨e,he⟩:∃ e,n=m+1+e:=⟨n-(m+1),by omega⟩
  have e1:a ^ n*q+r=a ^ m*(a*(a ^ e*q))+r:=by
   rw [he,Nat.pow_add,Abm,Nat.mul_assoc,Nat.mul_assoc]
  rw [e1,AbZ (AcU ha),Nat.mul_add_mod]
theorem inc_dig {a:Nat} (ha:0<a):∀ n k,k<a ^ n→Ik a (Hu a n k)=(Hu a n ((k+1) % a ^ n),decide (k+1<a ^ n))
 | 0,k,hk=>by
  have:k=0:=by simpa using hk
  subst this
  simp [Hu,Ik]
 | n+1,k,hk=>by
  have hp:0<a ^ n:=AcU ha
  obtain ⟨q,r,hr,rfl⟩:∃ q r,r<a ^ n∧k=a ^ n*q+r:=⟨k / a ^ n,k % a ^ n,Abz _ hp,(Nat.div_add_mod _ _).symm⟩
  have hq:q<a:=by
   rcases AaM q a with h | h
   ·exact h
   ·have:=Nat.mul_le_mul_left (a ^ n) h
    rw [Abm] at hk;omega
  have hd:Hu a (n+1) (a ^ n*q+r)=q::Hu a n r:=by
   rw [Hu,Pv ha n q r (AaR _),AbZ hp,AbS hr,Abn,AaT hq]
  rw [hd,Ik,inc_dig ha n r hr]
  by_cases hlast:r+1<a ^ n
  ·rw [if_pos (by simpa using hlast)]
   have h1:a ^ n*q+r+1<a ^ (n+1):=by
    have:=Nat.mul_le_mul_left (a ^ n) hq
    rw [Abm];rw [Nat.mul_succ] at this;omega
   rw [AaT hlast,AaT h1,decide_eq_true h1]
   have h2:Hu a (n+1) (a ^ n*q+(r+1))=q::Hu a n (r+1):=by
    rw [Hu,Pv ha n q (r+1) (AaR _),AbZ hp,AbS hlast,Abn,AaT hq]
   rw [show a ^ n*q+r+1=a ^ n*q+(r+1) by omega,h2]
  ·have hr1:r+1=a ^ n:=by omega
   rw [if_neg (by simp [hlast]),hr1,Nat.mod_self]
   have e2:a ^ n*q+r+1=a ^ n*(q+1):=by rw [Nat.mul_succ];omega
   rw [e2]
   by_cases hq1:q+1<a
   ·have h1:a ^ n*(q+1)<a ^ (n+1):=by rw [Abm];exact Nat.mul_lt_mul_of_pos_left hq1 hp
    have h2:Hu a (n+1) (a ^ n*(q+1))=(q+1)::Hu a n 0:=by
     have:=Pv ha n (q+1) 0 (AaR _)
     rw [Abn] at this
     rw [Hu,this,Nat.mul_div_cancel_left _ hp,AaT hq1]
    rw [AaT h1,h2,AaT hq1,decide_eq_true h1]
    simp
   ·have hqa:q+1=a:=by omega
    have h1:a ^ n*(q+1)=a ^ (n+1):=by rw [hqa,Abm]
    rw [h1,hqa,Nat.mod_self,Nat.mod_self,Hu,dig_zero]
    simp
theorem dV {al:List UInt8} {most:Nat} {w:List UInt8} (hl:w.length≤most) (hw:∀ b∈w,b∈al):w∈Hw al most:=by
 unfold Hw
 rw [Abh]
 refine ⟨w.length,Aae.2 Bm,?_⟩
 clear hl
 have key:∀ (w:List UInt8),(∀ b∈w,b∈al)→∃ k,k<al.length ^ w.length∧Hv al w.length k=w:=by
  intro w
  induction w with
  | nil=>exact fun _=>⟨0,by simp,rfl⟩
  | cons b w ih =>
   intro hb
   obtain ⟨k,hk,hkw⟩:=ih fun c hc=>hb c (AaG _ hc)
   obtain ⟨i,hi,hib⟩:=AaQ.1 (hb b AaK)
   have hp:0<al.length ^ w.length:=AcU Bm
   refine ⟨al.length ^ w.length*i+k,?_,?_⟩
   ·rw [AaZ,Abm]
    have:=Nat.mul_le_mul_left (al.length ^ w.length) hi
    rw [Nat.mul_succ] at this;omega
   ·unfold Hv at hkw ⊢
    rw [AaZ,Hu,Pv Bm w.length i k (AaR _),Aar,hkw,AbZ hp,AbS hk,Abn,AaT hi,gD hi,hib]
 obtain ⟨k,hk,hkw⟩:=key w hw
 exact Aaf.2 ⟨k,Aae.2 hk,hkw⟩
theorem words_len {al:List UInt8} {most:Nat} {w:List UInt8} (h:w∈Hw al most):w.length≤most:=by
 unfold Hw at h
 obtain ⟨n,hn,h⟩:=Abh.1 h
 obtain ⟨k,_,rfl⟩:=Aaf.1 h
 unfold Hv
 rw [AaC,dig_len]
 have:=Aae.1 hn
 omega
theorem qY:∀ w:List UInt8,Tf w w=false
 | []=>rfl
 | x::w=>by rw [Tf,if_pos rfl];exact qY w
theorem jV:∀ {a b:List UInt8},Tf a b=true→Tf b a=false
 | [],_,h=>by cases h
 | x::a,[],_=>rfl
 | x::a,y::b,h=>by
  rw [Tf] at h ⊢
  by_cases e:x=y
  ·subst e;rw [if_pos rfl] at h ⊢;exact jV h
  ·rw [if_neg e,decide_eq_true_eq] at h
   rw [if_neg (fun h2=>e h2.symm),decide_eq_false_iff_not]
   intro h2
   rw [AcC] at h h2
   omega
theorem yL (w:List UInt8):Lc w w=false:=by unfold Lc;rw [if_pos rfl];exact qY w
theorem uK {a b:List UInt8} (h:Lc a b=true):Lc b a=false:=by
 unfold Lc at h ⊢
 by_cases e:a.length=b.length
 ·rw [if_pos e] at h;rw [if_pos e.symm];exact jV h
 ·rw [if_neg e,decide_eq_true_eq] at h
  rw [if_neg (fun h=>e h.symm),decide_eq_false_iff_not];omega
theorem jW {al:List UInt8} (hal:al.Pairwise (·<·)):∀ (n k k':Nat),k<k'→k'<al.length ^ n→Tf (Hv al n k) (Hv al n k')=true
 | 0,k,k',h1,h2=>by simp at h2;omega
 | n+1,k,k',h1,h2=>by
  have hp:0<al.length:=by
   rcases AbP al.length with h0 | h0
   ·rw [h0] at h2;simp at h2
   ·exact h0
  have hpn:0<al.length ^ n:=AcU hp
  have hd:∀ k,k<al.length ^ (n+1)→Hv al (n+1) k=al.getD (k / al.length ^ n) 0::Hv al n (k % al.length ^ n)∧k / al.length ^ n<al.length:=fun k hk=>by
   have h3:k / al.length ^ n<al.length:=Nat.div_lt_of_lt_mul (by rw [Abm] at hk;exact hk)
   have h4:=Pv hp (n:=n) n (k / al.length ^ n) (k % al.length ^ n) (AaR _)
   rw [Nat.div_add_mod] at h4
   refine ⟨?_,h3⟩
   unfold Hv
   rw [Hu,Aar,AaT h3,h4]
  obtain ⟨e1,l1⟩:=hd k Bm
  obtain ⟨e2,l2⟩:=hd k' h2
  rw [e1,e2,Tf]
  have hle:k / al.length ^ n≤k' / al.length ^ n:=Nat.div_le_div_right Bm
  rcases AaM (k / al.length ^ n) (k' / al.length ^ n) with h3 | h3
  ·have h4:=AcR.1 hal _ _ l1 l2 h3
   rw [gD l1,gD l2,if_neg (fun e=>by rw [e,AcC] at h4;omega),decide_eq_true_eq]
   exact h4
  ·have h4:k / al.length ^ n=k' / al.length ^ n:=by omega
   rw [h4,if_pos rfl]
   refine jW hal n _ _ ?_ (Abz _ hpn)
   have d1:=Nat.div_add_mod k (al.length ^ n)
   have d2:=Nat.div_add_mod k' (al.length ^ n)
   rw [h4] at d1
   omega
theorem fU {al:List UInt8} (hal:al.Pairwise (·<·)) (most:Nat):(Hw al most).Pairwise fun a b=>Lc a b=true:=by
 unfold Hw
 rw [List.pairwise_flatMap]
 have hlen:∀ n k,(Hv al n k).length=n:=fun n k=>by unfold Hv;rw [AaC,dig_len]
 refine ⟨fun n _=>?_,?_⟩
 ·rw [List.pairwise_map]
  refine List.pairwise_lt_range.imp_of_mem fun {k k'} _ hk' h=>?_
  unfold Lc
  rw [hlen,hlen,if_pos rfl]
  exact jW hal n k k' h (Aae.1 hk')
 ·refine List.pairwise_lt_range.imp fun {n n'} h=>?_
  intro a ha b hb
  obtain ⟨k,_,rfl⟩:=Aaf.1 ha
  obtain ⟨k',_,rfl⟩:=Aaf.1 hb
  unfold Lc
  rw [hlen,hlen,if_neg Bm,decide_eq_true h]
theorem apart_some {t u:Tr} {al:List UInt8} {most:Nat} {w:List UInt8} (hal:al.Pairwise (·<·)) (h:Gi t u al most=some w):Ip t u w=true∧w.length≤most∧∀ x,x.length≤most→(∀ b∈x,b∈al)→Ip t u x=true→Lc x w=false:=by
 unfold Gi at h
 have h1:=List.find?_some h
 have h2:=words_len (List.mem_of_find?_eq_some h)
 refine ⟨h1,h2,fun x hx hb hd=>?_⟩
 have hm:=dV hx hb
 obtain ⟨_,ao,bs,e,has⟩:=List.find?_eq_some_iff_append.1 h
 have hs:=fU hal most
 rw [e] at hm hs
 rcases AaS.1 hm with hm | hm
 ·have:=has x hm
  rw [hd] at this;cases this
 ·rcases AaV.1 hm with rfl | hm
  ·exact yL _
  ·exact uK ((AbO.1 (Abq.1 hs).2.1).1 x hm)
theorem apart_none {t u:Tr} {al:List UInt8} {most:Nat} (h:Gi t u al most=none) {x:List UInt8} (hx:x.length≤most) (hb:∀ b∈x,b∈al):Ip t u x=false:=by
 have:=List.find?_eq_none.1 h x (dV hx hb)
 simpa using this
theorem apart_self {t:Tr} {al:List UInt8} {most:Nat}:Gi t t al most=none:=by
 unfold Gi
 rw [List.find?_eq_none]
 intro x _
 unfold Ip
 simp
end Cn7
end Go.Proofs.YtmohebpaonkaeaaGreatDoor
namespace Go.Proofs.YtmohebpaonkaeaaGreatDoor
open Go Go.Ex
structure Ew where
 kind:Int
 c:List Nat
 l:Int
 r:Int
 mn:Int
 mx:Int
deriving DecidableEq
def dW (n:Ew):List Value:=.int .i64 n.kind::n.c.map Bb++[.int .i64 n.l,.int .i64 n.r,.int .i64 n.mn,.int .i64 n.mx]
def NodeR (_:Ah) (cs:List Value) (n:Ew):Prop:=cs=dW n∧Cj n.c
def Rx (G:Ah) (v:Value) (l:List Ew):Prop:=Bi 9 NodeR G v l
theorem Rx.mono {G G':Ah} (h:G.le G') {v:Value} {l:List Ew} (hl:Rx G v l):Rx G' v l:=Bi.mono (R:=NodeR) (G:=G) (G':=G') (fun _ _ h=>h) h hl
def Ua (k:Int):Nat:=if k=4∨k=5∨k=6 then 2 else if k=7∨k=8 then 1 else 0
def Nw (n:Ew) (i:Int):Prop:=(if 0<Ua n.kind then 0≤n.l∧n.l<i else n.l=0)∧(if 1<Ua n.kind then 0≤n.r∧n.r<i else n.r=0)
instance (n:Ew) (i:Int):Decidable (Nw n i):=by unfold Nw;infer_instance
def Ep (n:Ew) (i:Int):Int :=
 if n.kind<1∨8<n.kind then 1
 else if ¬ Nw n i then 1
 else if n.kind≠3∧n.c≠noC then 1
 else if n.kind≠8 then (if n.mn≠0∨n.mx≠0 then 1 else 0)
 else if n.mn<0∨n.mx < -1 then 1
 else if 16<n.mn∨16<n.mx then 2
 else if n.mx≠-1∧n.mx<n.mn then 1 else 0
def Tg:Nat→List Ew→Int
 | _,[]=>0
 | i,n::t=>if Ep n i=0 then Tg (i+1) t else Ep n i
def Oa (cs:List Nat) (n:Ew):List Nat :=
 if 1<Ua n.kind then (cs.modify n.l.toNat (·+1)).modify n.r.toNat (·+1)
 else if 0<Ua n.kind then cs.modify n.l.toNat (·+1) else cs
def cntF (l:List Ew):List Nat:=l.foldl Oa (List.replicate l.length 0)
def dX (cs:List Nat) (m:Nat):Bool:=(cs.take m).all (· == 1)
def Nm (l:List Ew):Int :=
 if 200<l.length then 2 else if l.length=0 then 1 else if Tg 0 l=0 then (if dX (cntF l) (l.length-1)=true then 0 else 1) else Tg 0 l
theorem yM {k:Int} (h:k=4∨k=5∨k=6):Ua k=2:=if_pos h
theorem arF_1 {k:Int} (h:k=7∨k=8):Ua k=1:=by unfold Ua;rw [if_neg Bm,if_pos h]
theorem arF_0 {k:Int} (h:¬ (k=4∨k=5∨k=6)) (h2:¬ (k=7∨k=8)):Ua k=0:=by unfold Ua;rw [if_neg h,if_neg h2]
theorem dY {n:Ew} {i:Int} (h:Ep n i=0):Nw n i:=by
 unfold Ep at h
 split at h
 ·cases h
 ·split at h
  ·cases h
  ·rename_i h2;exact Classical.not_not.1 h2
theorem ops_l {n:Ew} {i:Int} (h:Nw n i) (ha:0<Ua n.kind):0≤n.l∧n.l<i:=by have:=h.1;rwa [if_pos ha] at this
theorem ops_r {n:Ew} {i:Int} (h:Nw n i) (ha:1<Ua n.kind):0≤n.r∧n.r<i:=by have:=h.2;rwa [if_pos ha] at this
theorem Uz (cs:List Nat) (n:Ew):(Oa cs n).length=cs.length:=by unfold Oa;split<;>(try split)<;>simp
theorem mod_le {cs:List Nat} {i b:Nat} (h:∀ x∈cs,x≤b):∀ x∈cs.modify i (·+1),x≤b+1:=by
 intro x hx
 obtain ⟨j,hj,hx⟩:=List.getElem_of_mem hx
 rw [List.getElem_modify] at hx
 have:=h (cs[j]'(by simpa using hj)) (AaD _)
 split at hx<;>omega
theorem aV {cs:List Nat} {n:Ew} {b:Nat} (h:∀ x∈cs,x≤b):∀ x∈Oa cs n,x≤b+2:=by
 unfold Oa;split
 ·exact mod_le (mod_le h)
 ·split
  ·intro x hx;have:=mod_le h x hx;omega
  ·intro x hx;have:=h x hx;omega
abbrev natW (n:Nat):Value:=.int .i64 (n:Int)
theorem qZ {cs:List Nat} {i:Nat} (h:i<cs.length):(cs.map natW).set i (.int .i64 ((cs[i]+1:Nat):Int))=(cs.modify i (·+1)).map natW:=by
 apply Abb
 ·simp
 ·intro j h1 h2
  rw [List.getElem_set,Aaa,Aaa,List.getElem_modify]
  split
  ·rename_i h3;subst h3;rfl
  ·rfl
theorem yN {G:Ah} {v:Value} {n:Nat} {cs:List Nat} (h:Sl G v 1 n (cs.map natW)) (hn:n=cs.length):Wo G v (cs.map fun n:Nat=>(n:Int)):=by
 subst hn
 show Sl G v 1 (cs.map fun n:Nat=>(n:Int)).length ((cs.map fun n:Nat=>(n:Int)).map (.int .i64))
 rw [AaC,AbV];exact h
theorem Va {l:List Ew} {k:Nat} (h:k<l.length) (h0:Ep l[k] k=0):Tg k (l.drop k)=Tg (k+1) (l.drop (k+1)):=by
 rw [Aaq h,Tg,if_pos h0]
theorem yO {l:List Ew} {k:Nat} (h:k<l.length) (h0:¬ Ep l[k] k=0):Tg k (l.drop k)=Ep l[k] k:=by
 rw [Aaq h,Tg,if_neg h0]
theorem yP {cs:List Nat} {m:Nat} (h:∀ i,i<m→cs.getD i 0=1):dX cs m=true:=by
 unfold dX
 rw [AbD]
 intro x hx
 obtain ⟨j,hj,rfl⟩:=List.getElem_of_mem hx
 rw [Aag] at hj
 have:=h j Bm
 rw [AaH,AaA Bm] at this
 simpa using this
theorem yQ {cs:List Nat} {m i:Nat} (hi:i<m) (hl:i<cs.length) (h:¬ cs[i]=1):dX cs m=false:=by
 unfold dX
 rw [List.all_eq_false]
 exact ⟨cs[i],AaF (i:=i) (by rw [AbJ hi,AaA hl]),by simpa using h⟩
theorem uL {l:List Ew} (h:200<l.length):Nm l=2:=if_pos h
theorem uM {l:List Ew} (h:l.length=0):Nm l=1:=by unfold Nm;rw [if_neg Bm,if_pos h]
theorem uN {l:List Ew} (h1:¬ 200<l.length) (h2:¬ l.length=0) (h:¬ Tg 0 l=0):Nm l=Tg 0 l:=by unfold Nm;rw [if_neg h1,if_neg h2,if_neg h]
theorem dZ {l:List Ew} (h1:¬ 200<l.length) (h2:¬ l.length=0) (h:Tg 0 l=0):Nm l=if dX (cntF l) (l.length-1)=true then 0 else 1:=by unfold Nm;rw [if_neg h1,if_neg h2,if_pos h]
end Go.Proofs.YtmohebpaonkaeaaGreatDoor
namespace Go.Proofs.YtmohebpaonkaeaaGreatDoor
open Go Go.Ex Go.RowKit Go.Proofs.Tryz
instance C10:Ic prog 10 Tryz.f10:=⟨func10,rfl,kR⟩
instance C100:Ic prog 100 Tryz.f100:=⟨func100,rfl,kR⟩
instance C101:Ic prog 101 Tryz.f101:=⟨func101,rfl,kR⟩
instance C102:Ic prog 102 Tryz.f102:=⟨func102,rfl,kR⟩
instance C104:Ic prog 104 Tryz.f104:=⟨func104,rfl,kR⟩
instance C105:Ic prog 105 Tryz.f105:=⟨func105,rfl,kR⟩
instance C107:Ic prog 107 Tryz.f107:=⟨func107,rfl,kR⟩
instance C108:Ic prog 108 Tryz.f108:=⟨func108,rfl,kR⟩
instance C109:Ic prog 109 Tryz.f109:=⟨func109,rfl,kR⟩
instance C11:Ic prog 11 Tryz.f11:=⟨func11,rfl,kR⟩
instance C110:Ic prog 110 Tryz.f110:=⟨func110,rfl,kR⟩
instance C111:Ic prog 111 Tryz.f111:=⟨func111,rfl,kR⟩
instance C114:Ic prog 114 Tryz.f114:=⟨func114,rfl,kR⟩
instance C115:Ic prog 115 Tryz.f115:=⟨func115,rfl,kR⟩
instance C116:Ic prog 116 Tryz.f116:=⟨func116,rfl,kR⟩
instance C117:Ic prog 117 Tryz.f117:=⟨func117,rfl,kR⟩
instance C118:Ic prog 118 Tryz.f118:=⟨func118,rfl,kR⟩
instance C12:Ic prog 12 Tryz.f12:=⟨func12,rfl,kR⟩
instance C126:Ic prog 126 Tryz.f126:=⟨func126,rfl,kR⟩
instance C127:Ic prog 127 Tryz.f127:=⟨func127,rfl,kR⟩
instance C128:Ic prog 128 Tryz.f128:=⟨func128,rfl,kR⟩
instance C129:Ic prog 129 Tryz.f129:=⟨func129,rfl,kR⟩
instance C13:Ic prog 13 Tryz.f13:=⟨func13,rfl,kR⟩
instance C130:Ic prog 130 Tryz.f130:=⟨func130,rfl,kR⟩
instance C134:Ic prog 134 Tryz.f134:=⟨func134,rfl,kR⟩
instance C135:Ic prog 135 Tryz.f135:=⟨func135,rfl,kR⟩
instance C136:Ic prog 136 Tryz.f136:=⟨func136,rfl,kR⟩
instance C137:Ic prog 137 Tryz.f137:=⟨func137,rfl,kR⟩
instance C14:Ic prog 14 Tryz.f14:=⟨func14,rfl,kR⟩
instance C142:Ic prog 142 Tryz.f142:=⟨func142,rfl,kR⟩
instance C143:Ic prog 143 Tryz.f143:=⟨func143,rfl,kR⟩
instance C144:Ic prog 144 Tryz.f144:=⟨func144,rfl,kR⟩
instance C145:Ic prog 145 Tryz.f145:=⟨func145,rfl,kR⟩
instance C146:Ic prog 146 Tryz.f146:=⟨func146,rfl,kR⟩
instance C147:Ic prog 147 Tryz.f147:=⟨func147,rfl,kR⟩
instance C148:Ic prog 148 Tryz.f148:=⟨func148,rfl,kR⟩
instance C15:Ic prog 15 Tryz.f15:=⟨func15,rfl,kR⟩
instance C150:Ic prog 150 Tryz.f150:=⟨func150,rfl,kR⟩
instance C151:Ic prog 151 Tryz.f151:=⟨func151,rfl,kR⟩
instance C152:Ic prog 152 Tryz.f152:=⟨func152,rfl,kR⟩
instance C156:Ic prog 156 Tryz.f156:=⟨func156,rfl,kR⟩
instance C157:Ic prog 157 Tryz.f157:=⟨func157,rfl,kR⟩
instance C158:Ic prog 158 Tryz.f158:=⟨func158,rfl,kR⟩
instance C159:Ic prog 159 Tryz.f159:=⟨func159,rfl,kR⟩
instance C165:Ic prog 165 Tryz.f165:=⟨func165,rfl,kR⟩
instance C167:Ic prog 167 Tryz.f167:=⟨func167,rfl,kR⟩
instance C168:Ic prog 168 Tryz.f168:=⟨func168,rfl,kR⟩
instance C169:Ic prog 169 Tryz.f169:=⟨func169,rfl,kR⟩
instance C17:Ic prog 17 Tryz.f17:=⟨func17,rfl,kR⟩
instance C170:Ic prog 170 Tryz.f170:=⟨func170,rfl,kR⟩
instance C171:Ic prog 171 Tryz.f171:=⟨func171,rfl,kR⟩
instance C172:Ic prog 172 Tryz.f172:=⟨func172,rfl,kR⟩
instance C173:Ic prog 173 Tryz.f173:=⟨func173,rfl,kR⟩
instance C174:Ic prog 174 Tryz.f174:=⟨func174,rfl,kR⟩
instance C175:Ic prog 175 Tryz.f175:=⟨func175,rfl,kR⟩
instance C19:Ic prog 19 Tryz.f19:=⟨func19,rfl,kR⟩
instance C21:Ic prog 21 Tryz.f21:=⟨func21,rfl,kR⟩
instance C23:Ic prog 23 Tryz.f23:=⟨func23,rfl,kR⟩
instance C24:Ic prog 24 Tryz.f24:=⟨func24,rfl,kR⟩
instance C25:Ic prog 25 Tryz.f25:=⟨func25,rfl,kR⟩
instance C27:Ic prog 27 Tryz.f27:=⟨func27,rfl,kR⟩
instance C29:Ic prog 29 Tryz.f29:=⟨func29,rfl,kR⟩
instance C32:Ic prog 32 Tryz.f32:=⟨func32,rfl,kR⟩
instance C33:Ic prog 33 Tryz.f33:=⟨func33,rfl,kR⟩
instance C34:Ic prog 34 Tryz.f34:=⟨func34,rfl,kR⟩
instance C35:Ic prog 35 Tryz.f35:=⟨func35,rfl,kR⟩
instance C36:Ic prog 36 Tryz.f36:=⟨func36,rfl,kR⟩
instance C37:Ic prog 37 Tryz.f37:=⟨func37,rfl,kR⟩
instance C38:Ic prog 38 Tryz.f38:=⟨func38,rfl,kR⟩
instance C39:Ic prog 39 Tryz.f39:=⟨func39,rfl,kR⟩
instance C40:Ic prog 40 Tryz.f40:=⟨func40,rfl,kR⟩
instance C41:Ic prog 41 Tryz.f41:=⟨func41,rfl,kR⟩
instance C42:Ic prog 42 Tryz.f42:=⟨func42,rfl,kR⟩
instance C43:Ic prog 43 Tryz.f43:=⟨func43,rfl,kR⟩
instance C44:Ic prog 44 Tryz.f44:=⟨func44,rfl,kR⟩
instance C45:Ic prog 45 Tryz.f45:=⟨func45,rfl,kR⟩
instance C46:Ic prog 46 Tryz.f46:=⟨func46,rfl,kR⟩
instance C48:Ic prog 48 Tryz.f48:=⟨func48,rfl,kR⟩
instance C52:Ic prog 52 Tryz.f52:=⟨func52,rfl,kR⟩
instance C53:Ic prog 53 Tryz.f53:=⟨func53,rfl,kR⟩
instance C54:Ic prog 54 Tryz.f54:=⟨func54,rfl,kR⟩
instance C57:Ic prog 57 Tryz.f57:=⟨func57,rfl,kR⟩
instance C58:Ic prog 58 Tryz.f58:=⟨func58,rfl,kR⟩
instance C59:Ic prog 59 Tryz.f59:=⟨func59,rfl,kR⟩
instance C6:Ic prog 6 Tryz.f6:=⟨func6,rfl,kR⟩
instance C60:Ic prog 60 Tryz.f60:=⟨func60,rfl,kR⟩
instance C61:Ic prog 61 Tryz.f61:=⟨func61,rfl,kR⟩
instance C68:Ic prog 68 Tryz.f68:=⟨func68,rfl,kR⟩
instance C69:Ic prog 69 Tryz.f69:=⟨func69,rfl,kR⟩
instance C7:Ic prog 7 Tryz.f7:=⟨func7,rfl,kR⟩
instance C70:Ic prog 70 Tryz.f70:=⟨func70,rfl,kR⟩
instance C71:Ic prog 71 Tryz.f71:=⟨func71,rfl,kR⟩
instance C72:Ic prog 72 Tryz.f72:=⟨func72,rfl,kR⟩
instance C73:Ic prog 73 Tryz.f73:=⟨func73,rfl,kR⟩
instance C79:Ic prog 79 Tryz.f79:=⟨func79,rfl,kR⟩
instance C8:Ic prog 8 Tryz.f8:=⟨func8,rfl,kR⟩
instance C80:Ic prog 80 Tryz.f80:=⟨func80,rfl,kR⟩
instance C84:Ic prog 84 Tryz.f84:=⟨func84,rfl,kR⟩
instance C85:Ic prog 85 Tryz.f85:=⟨func85,rfl,kR⟩
instance C86:Ic prog 86 Tryz.f86:=⟨func86,rfl,kR⟩
instance C87:Ic prog 87 Tryz.f87:=⟨func87,rfl,kR⟩
instance C88:Ic prog 88 Tryz.f88:=⟨func88,rfl,kR⟩
instance C9:Ic prog 9 Tryz.f9:=⟨func9,rfl,kR⟩
instance C93:Ic prog 93 Tryz.f93:=⟨func93,rfl,kR⟩
instance C94:Ic prog 94 Tryz.f94:=⟨func94,rfl,kR⟩
instance C95:Ic prog 95 Tryz.f95:=⟨func95,rfl,kR⟩
instance C96:Ic prog 96 Tryz.f96:=⟨func96,rfl,kR⟩
instance C97:Ic prog 97 Tryz.f97:=⟨func97,rfl,kR⟩
instance C98:Ic prog 98 Tryz.f98:=⟨func98,rfl,kR⟩
instance C99:Ic prog 99 Tryz.f99:=⟨func99,rfl,kR⟩
instance A101:Ia prog 101 false:=⟨isAgg101⟩
instance A109:Ia prog 109 false:=⟨isAgg109⟩
instance A116:Ia prog 116 false:=⟨isAgg116⟩
instance A117:Ia prog 117 false:=⟨isAgg117⟩
instance A160:Ia prog 160 true:=⟨isAgg160⟩
instance A164:Ia prog 164 false:=⟨isAgg164⟩
instance A181:Ia prog 181 false:=⟨isAgg181⟩
instance A22:Ia prog 22 false:=⟨isAgg22⟩
instance A238:Ia prog 238 true:=⟨isAgg238⟩
instance A24:Ia prog 24 true:=⟨isAgg24⟩
instance A240:Ia prog 240 true:=⟨isAgg240⟩
instance A26:Ia prog 26 true:=⟨isAgg26⟩
instance A28:Ia prog 28 false:=⟨isAgg28⟩
instance A29:Ia prog 29 false:=⟨isAgg29⟩
instance A3:Ia prog 3 false:=⟨isAgg3⟩
instance A30:Ia prog 30 false:=⟨isAgg30⟩
instance A31:Ia prog 31 false:=⟨isAgg31⟩
instance A33:Ia prog 33 true:=⟨isAgg33⟩
instance A35:Ia prog 35 false:=⟨isAgg35⟩
instance A37:Ia prog 37 true:=⟨isAgg37⟩
instance A4:Ia prog 4 false:=⟨isAgg4⟩
instance A41:Ia prog 41 false:=⟨isAgg41⟩
instance A49:Ia prog 49 true:=⟨isAgg49⟩
instance A5:Ia prog 5 false:=⟨isAgg5⟩
instance A71:Ia prog 71 false:=⟨isAgg71⟩
instance A72:Ia prog 72 false:=⟨isAgg72⟩
instance A74:Ia prog 74 true:=⟨isAgg74⟩
instance A76:Ia prog 76 true:=⟨isAgg76⟩
instance A79:Ia prog 79 false:=⟨isAgg79⟩
instance A80:Ia prog 80 true:=⟨isAgg80⟩
instance A84:Ia prog 84 false:=⟨isAgg84⟩
instance A86:Ia prog 86 true:=⟨isAgg86⟩
instance A88:Ia prog 88 true:=⟨isAgg88⟩
instance A97:Ia prog 97 true:=⟨isAgg97⟩
instance A98:Ia prog 98 false:=⟨isAgg98⟩
instance S101:Sz prog 101 1:=⟨sizeOf101⟩
instance S109:Sz prog 109 1:=⟨sizeOf109⟩
instance S116:Sz prog 116 1:=⟨sizeOf116⟩
instance S117:Sz prog 117 1:=⟨sizeOf117⟩
instance S160:Sz prog 160 259:=⟨sizeOf160⟩
instance S181:Sz prog 181 1:=⟨sizeOf181⟩
instance S22:Sz prog 22 1:=⟨sizeOf22⟩
instance S238:Sz prog 238 1:=⟨sizeOf238⟩
instance S24:Sz prog 24 5:=⟨sizeOf24⟩
instance S240:Sz prog 240 3:=⟨sizeOf240⟩
instance S26:Sz prog 26 3:=⟨sizeOf26⟩
instance S28:Sz prog 28 1:=⟨sizeOf28⟩
instance S29:Sz prog 29 1:=⟨sizeOf29⟩
instance S3:Sz prog 3 1:=⟨sizeOf3⟩
instance S30:Sz prog 30 1:=⟨sizeOf30⟩
instance S31:Sz prog 31 1:=⟨sizeOf31⟩
instance S33:Sz prog 33 4:=⟨sizeOf33⟩
instance S35:Sz prog 35 1:=⟨sizeOf35⟩
instance S37:Sz prog 37 3:=⟨sizeOf37⟩
instance S4:Sz prog 4 1:=⟨sizeOf4⟩
instance S41:Sz prog 41 1:=⟨sizeOf41⟩
instance S49:Sz prog 49 2:=⟨sizeOf49⟩
instance S5:Sz prog 5 1:=⟨sizeOf5⟩
instance S71:Sz prog 71 1:=⟨sizeOf71⟩
instance S72:Sz prog 72 1:=⟨sizeOf72⟩
instance S74:Sz prog 74 2:=⟨sizeOf74⟩
instance S76:Sz prog 76 2:=⟨sizeOf76⟩
instance S79:Sz prog 79 1:=⟨sizeOf79⟩
instance S80:Sz prog 80 256:=⟨sizeOf80⟩
instance S84:Sz prog 84 1:=⟨sizeOf84⟩
instance S86:Sz prog 86 4:=⟨sizeOf86⟩
instance S88:Sz prog 88 9:=⟨sizeOf88⟩
instance S97:Sz prog 97 2:=⟨sizeOf97⟩
instance S98:Sz prog 98 1:=⟨sizeOf98⟩
instance U101:Un prog 101 (.slice 80):=⟨underlying101⟩
instance U114:Un prog 114 (.map 9 3):=⟨underlying114⟩
instance U115:Un prog 115 (.array 256 79):=⟨underlying115⟩
instance U116:Un prog 116 (.map 5 79):=⟨underlying116⟩
instance U117:Un prog 117 (.slice 116):=⟨underlying117⟩
instance U171:Un prog 171 (.slice 37):=⟨underlying171⟩
instance U183:Un prog 183 (.map 3 4):=⟨underlying183⟩
instance U200:Un prog 200 (.array 2 86):=⟨underlying200⟩
instance U203:Un prog 203 (.slice 28):=⟨underlying203⟩
instance U22:Un prog 22 (.slice 5):=⟨underlying22⟩
instance U238:Un prog 238 (.array 1 84):=⟨underlying238⟩
instance U267:Un prog 267 (.array 64 5):=⟨underlying267⟩
instance U268:Un prog 268 (.map 240 3):=⟨underlying268⟩
instance U269:Un prog 269 (.slice 240):=⟨underlying269⟩
instance U28:Un prog 28 (.slice 86):=⟨underlying28⟩
instance U29:Un prog 29 (.slice 71):=⟨underlying29⟩
instance U3:Un prog 3 (.int IntKind.i64):=⟨underlying3⟩
instance U30:Un prog 30 (.slice 4):=⟨underlying30⟩
instance U31:Un prog 31 (.slice 22):=⟨underlying31⟩
instance U35:Un prog 35 (.slice 79):=⟨underlying35⟩
instance U5:Un prog 5 (.int IntKind.u8):=⟨underlying5⟩
instance U67:Un prog 67 (.array 2 26):=⟨underlying67⟩
instance U71:Un prog 71 (.slice 74):=⟨underlying71⟩
instance U72:Un prog 72 (.slice 76):=⟨underlying72⟩
instance U79:Un prog 79 (.slice 3):=⟨underlying79⟩
instance U80:Un prog 80 (.array 256 3):=⟨underlying80⟩
instance U84:Un prog 84 (.int IntKind.u64):=⟨underlying84⟩
instance U86:Un prog 86 (.array 4 84):=⟨underlying86⟩
instance U90:Un prog 90 (.slice 88):=⟨underlying90⟩
instance U97:Un prog 97 (.array 2 3):=⟨underlying97⟩
instance U98:Un prog 98 (.map 97 3):=⟨underlying98⟩
instance U99:Un prog 99 (.slice 97):=⟨underlying99⟩
instance O103_0:Fo prog 103 0 0:=⟨kR⟩
instance O103_1:Fo prog 103 1 1:=⟨kR⟩
instance O119_0:Fo prog 119 0 0:=⟨kR⟩
instance O119_1:Fo prog 119 1 1:=⟨kR⟩
instance O134_0:Fo prog 134 0 0:=⟨kR⟩
instance O134_1:Fo prog 134 1 4:=⟨kR⟩
instance O134_2:Fo prog 134 2 260:=⟨kR⟩
instance O134_3:Fo prog 134 3 261:=⟨kR⟩
instance O134_4:Fo prog 134 4 262:=⟨kR⟩
instance O160_0:Fo prog 160 0 0:=⟨kR⟩
instance O160_1:Fo prog 160 1 256:=⟨kR⟩
instance O160_2:Fo prog 160 2 257:=⟨kR⟩
instance O160_3:Fo prog 160 3 258:=⟨kR⟩
instance O240_0:Fo prog 240 0 0:=⟨kR⟩
instance O240_1:Fo prog 240 1 1:=⟨kR⟩
instance O24_0:Fo prog 24 0 0:=⟨kR⟩
instance O24_1:Fo prog 24 1 1:=⟨kR⟩
instance O24_2:Fo prog 24 2 2:=⟨kR⟩
instance O24_3:Fo prog 24 3 3:=⟨kR⟩
instance O24_4:Fo prog 24 4 4:=⟨kR⟩
instance O26_0:Fo prog 26 0 0:=⟨kR⟩
instance O26_1:Fo prog 26 1 1:=⟨kR⟩
instance O26_2:Fo prog 26 2 2:=⟨kR⟩
instance rA:Fo prog 33 0 0:=⟨kR⟩
instance O33_1:Fo prog 33 1 1:=⟨kR⟩
instance O33_2:Fo prog 33 2 2:=⟨kR⟩
instance O33_3:Fo prog 33 3 3:=⟨kR⟩
instance O37_0:Fo prog 37 0 0:=⟨kR⟩
instance O37_1:Fo prog 37 1 1:=⟨kR⟩
instance O37_2:Fo prog 37 2 2:=⟨kR⟩
instance O49_0:Fo prog 49 0 0:=⟨kR⟩
instance O49_1:Fo prog 49 1 1:=⟨kR⟩
instance O74_0:Fo prog 74 0 0:=⟨kR⟩
instance O74_1:Fo prog 74 1 1:=⟨kR⟩
instance O76_0:Fo prog 76 0 0:=⟨kR⟩
instance O76_1:Fo prog 76 1 1:=⟨kR⟩
instance O88_0:Fo prog 88 0 0:=⟨kR⟩
instance O88_1:Fo prog 88 1 1:=⟨kR⟩
instance O88_2:Fo prog 88 2 5:=⟨kR⟩
instance O88_3:Fo prog 88 3 6:=⟨kR⟩
instance O88_4:Fo prog 88 4 7:=⟨kR⟩
instance O88_5:Fo prog 88 5 8:=⟨kR⟩
def tb:Tq prog:=⟨[⟨3,false,0,isAgg3,nofun⟩,⟨37,true,3,isAgg37,fun _=>sizeOf37⟩,⟨33,true,4,isAgg33,fun _=>sizeOf33⟩,⟨86,true,4,isAgg86,fun _=>sizeOf86⟩,⟨5,false,0,isAgg5,nofun⟩,⟨30,false,0,isAgg30,nofun⟩,⟨4,false,0,isAgg4,nofun⟩,⟨22,false,0,isAgg22,nofun⟩,⟨35,false,0,isAgg35,nofun⟩,⟨28,false,0,isAgg28,nofun⟩,⟨79,false,0,isAgg79,nofun⟩,⟨72,false,0,isAgg72,nofun⟩,⟨84,false,0,isAgg84,nofun⟩,⟨160,true,259,isAgg160,fun _=>sizeOf160⟩,⟨97,true,2,isAgg97,fun _=>sizeOf97⟩,⟨101,false,0,isAgg101,nofun⟩,⟨29,false,0,isAgg29,nofun⟩,⟨31,false,0,isAgg31,nofun⟩,⟨76,true,2,isAgg76,fun _=>sizeOf76⟩,⟨80,true,256,isAgg80,fun _=>sizeOf80⟩,⟨24,true,5,isAgg24,fun _=>sizeOf24⟩,⟨240,true,3,isAgg240,fun _=>sizeOf240⟩,⟨41,false,0,isAgg41,nofun⟩,⟨74,true,2,isAgg74,fun _=>sizeOf74⟩,⟨117,false,0,isAgg117,nofun⟩,⟨71,false,0,isAgg71,nofun⟩,⟨88,true,9,isAgg88,fun _=>sizeOf88⟩,⟨109,false,0,isAgg109,nofun⟩,⟨116,false,0,isAgg116,nofun⟩,⟨26,true,3,isAgg26,fun _=>sizeOf26⟩,⟨181,false,0,isAgg181,nofun⟩,⟨49,true,2,isAgg49,fun _=>sizeOf49⟩,⟨98,false,0,isAgg98,nofun⟩,⟨164,false,0,isAgg164,nofun⟩,⟨238,true,1,isAgg238,fun _=>sizeOf238⟩],[⟨33,3,3,kR⟩,⟨33,2,2,kR⟩,⟨33,1,1,kR⟩,⟨37,1,1,kR⟩,⟨37,0,0,kR⟩,⟨160,2,257,kR⟩,⟨37,2,2,kR⟩,⟨160,3,258,kR⟩,⟨74,0,0,kR⟩,⟨103,0,0,kR⟩,⟨33,0,0,kR⟩,⟨74,1,1,kR⟩,⟨88,0,0,kR⟩,⟨103,1,1,kR⟩,⟨88,5,8,kR⟩,⟨134,3,261,kR⟩,⟨160,0,0,kR⟩,⟨119,0,0,kR⟩,⟨88,4,7,kR⟩,⟨134,4,262,kR⟩,⟨76,0,0,kR⟩,⟨24,2,2,kR⟩,⟨49,0,0,kR⟩,⟨76,1,1,kR⟩,⟨119,1,1,kR⟩,⟨134,2,260,kR⟩,⟨24,3,3,kR⟩,⟨49,1,1,kR⟩,⟨88,2,5,kR⟩,⟨24,4,4,kR⟩,⟨88,3,6,kR⟩,⟨240,0,0,kR⟩,⟨240,1,1,kR⟩,⟨24,0,0,kR⟩,⟨24,1,1,kR⟩,⟨26,0,0,kR⟩,⟨26,1,1,kR⟩,⟨134,0,0,kR⟩,⟨134,1,4,kR⟩,⟨160,1,256,kR⟩,⟨26,2,2,kR⟩,⟨88,1,1,kR⟩],[⟨101,80,underlying101⟩,⟨117,116,underlying117⟩,⟨171,37,underlying171⟩,⟨203,28,underlying203⟩,⟨22,5,underlying22⟩,⟨269,240,underlying269⟩,⟨28,86,underlying28⟩,⟨29,71,underlying29⟩,⟨30,4,underlying30⟩,⟨31,22,underlying31⟩,⟨35,79,underlying35⟩,⟨71,74,underlying71⟩,⟨72,76,underlying72⟩,⟨79,3,underlying79⟩,⟨90,88,underlying90⟩,⟨99,97,underlying99⟩]⟩
section
variable {N:Nat} {r:Option Nat} {Q:Exit→Env→World→Prop} {D:List Deferred} {c:Ctx} {G:Ah} {H:List Res} {w:World} {m:Md} {ds ds':List It} {L L':List (Nat×Value)} {es:List (Nat×Nat)} {ops:Array Oper} {l:List Oper} {cd:Code}
theorem Wt (n:Nat) (hh:List Nat) (hs:St c G H w) (h:qc tb N H D n (.cd cd) [] L hh=some (m,ds',L',es)) (k:At ⟨prog,N,r⟩ m (sqs ⟨prog,N,r⟩ ds' Q) ⟨D,L'⟩ w) (he:eqs es:=by exact rfl):T ⟨prog,N,r⟩ cd Q ⟨D,L⟩ w:=wR (m:=.cd cd) (ds:=[]) hs h he k
theorem Wu (n:Nat) (hh:List Nat) (hs:St c G H w) (h:qc tb N H D n (.cd cd) ds L hh=some (m,ds',L',es)) (k:At ⟨prog,N,r⟩ m (sqs ⟨prog,N,r⟩ ds' Q) ⟨D,L'⟩ w) (he:eqs es:=by exact rfl):T ⟨prog,N,r⟩ cd (sqs ⟨prog,N,r⟩ ds Q) ⟨D,L⟩ w:=wR (m:=.cd cd) (ds:=ds) hs h he k
theorem Wp (n:Nat) (hh:List Nat) (hs:St c G H w) (h:qc tb N H D n (.op ops l) ds L hh=some (m,ds',L',es)) (k:At ⟨prog,N,r⟩ m (sqs ⟨prog,N,r⟩ ds' Q) ⟨D,L'⟩ w) (he:eqs es:=by exact rfl):O ⟨prog,N,r⟩ ops (sqs ⟨prog,N,r⟩ ds Q) l ⟨D,L⟩ w:=wR (m:=.op ops l) (ds:=ds) hs h he k
theorem Xr {fu:Nat} {li:Array Bool} {pre:List Nat} (n hh:List Nat) (hs:St c G H w) (h:qa tb H ops D n L hh=some (L',es)) (k:A ⟨prog,N,r⟩ ops pre (St c G H) Q (fu-n.length) (qs li n) ⟨D,L'⟩ w) (he:eqs es:=by exact rfl) (ht:(qt ops pre li n&&Nat.ble n.length fu)=true:=by kernel_rfl):A ⟨prog,N,r⟩ ops pre (St c G H) Q fu li ⟨D,L⟩ w:=qa_le hs h he ht k
end
end Go.Proofs.YtmohebpaonkaeaaGreatDoor
namespace Go.Proofs.YtmohebpaonkaeaaGreatDoor
open Go Go.Ex Go.RowKit Go.Proofs.Tryz
variable {G:Ah} {x:Cx} {W:World→Prop} {E:Env} {K:Value→Prop} {d:Option Tmp} {ty:TypeId} {pos:String} {aft:Array Edge} {g:Option (Nat×Bool)} {o p:Operand} {xt yt:TypeId}
theorem cK:TI prog 5 (.int .u8 0) 1 1:=TI.of kR
theorem tz_ok {x:Nat} (hT:Tab G) :
  Ba prog 168 [Bb x] G [] fun r _ H'=>H'=[]∧r=Vi ((nA x:Nat):Int):=by
 refine Ba.of_T [(0,_)] func168 rfl ntmps168 sM rfl fun w0 hs=>?_
 have hT0:=hT
 refine Wt 8 [0] hs rfl<|Zy hs (Yc rfl (fun h4=>?_) fun h4=>?_)
 ·
  refine Wp 6 [0,0] hs rfl<|As<|Zz results168 rfl ?_
  exact hs.q (congrArg (Value.int .i64) (by unfold nA;rw [if_pos oM];rfl))
 refine Wp 7 [0] hs rfl<|Zy hs (Y_neg64 rfl<|Zy hs (Lp rfl rfl<|Zy hs (Y_mul64 (b:=285870213051353865) rfl rfl<|Zy hs (Nb 58 dC rfl rfl<|Zy hs (Bp (tzI x) underlying267 sizeOf5 rfl rfl rfl (wZ x)<|Zy hs (Yg rfl (hT _ (wZ x))<|Zy hs (Dj underlying5 underlying3 (c:=((tab64.getD (tzI x) 0:Nat):Int)) rfl (Ed (by have:=wY (tzI x);omega))<|Wp 2 [0] hs rfl<|As<|Zz results168 rfl ?_)))))))
 exact hs.q (congrArg (Value.int .i64) (by unfold nA;rw [if_neg oM]))
theorem Uh {x:Nat} :
  Ba prog 169 [Bb x] G [] fun r _ H'=>H'=[]∧r=Vi ((Ou x:Nat):Int):=by
 refine Ba.of_T [(0,_)] func169 rfl ntmps169 sM rfl fun w0 hs =>Wt 7 [0] hs rfl<|Zy hs (Nb 1 dC rfl rfl<|Zy hs (Lp (b:=6148914691236517205) rfl rfl<|Wp 1 [] hs rfl<|Zy hs (Lp (b:=6148914691236517205) rfl rfl<|Zy hs (Po rfl rfl<|Wp 5 [0] hs rfl<|Zy hs (Nb 2 dC rfl rfl<|Zy hs (Lp (b:=3689348814741910323) rfl rfl<|Wp 1 [] hs rfl<|Zy hs (Lp (b:=3689348814741910323) rfl rfl<|Zy hs (Po rfl rfl<|Wp 5 [0] hs rfl<|Zy hs (Nb 4 dC rfl rfl<|Wp 1 [] hs rfl<|Zy hs (Po rfl rfl<|Zy hs (Lp (b:=1085102592571150095) rfl rfl<|Wp 6 [1,0] hs rfl<|Zy hs (Nb 8 dC rfl rfl<|Zy hs (Po rfl rfl<|Wp 6 [0] hs rfl<|Zy hs (Nb 16 dC rfl rfl<|Zy hs (Po rfl rfl<|Wp 6 [0] hs rfl<|Zy hs (Nb 32 dC rfl rfl<|Zy hs (Po rfl rfl<|Wp 5 [0] hs rfl<|Zy hs (Dj underlying84 underlying3 (c:=((nB x:Nat):Int)) rfl (Ed (by have:=pop6_lt x;exact ⟨by omega,by show (nB x:Int)≤_;omega⟩))<|Zy hs (eZ rfl rfl sM (and127 (nB x))<|Wp 2 [0] hs rfl<|As<|Zz results169 rfl ?_)))))))))))))))))))
 exact hs.q rfl
theorem fV {c:List Nat} (hc:c.length=4) :
  Ba prog 135 [Ig c] G [] fun r _ H'=>H'=[]∧r=Vi ((Gr c:Nat):Int):=by
 refine Ba.of_T [(0,_)] func135 rfl ntmps135 sM rfl fun w0 hs =>Wt 2 [] hs rfl<|O_s (Fj hs rfl (cs:=(List.map Bb c)) rfl fun b1 _ hs =>Wp 9 [0,0] hs rfl<|Zy hs (Yk 0 rfl Ph<|Wp 2 [0] hs rfl<|Zl [3,6,7] (fun m E w=>∃ (k:Nat) (G':Ah),k≤4∧m=4-k∧E=⟨[],[(3,Vi ((Gr (c.take k):Nat):Int)),(6,(Ig c)),(7,Vi (k:Int))]⟩∧St ⟨w0,G,Bj []⟩ G' [.blk b1 86 (List.map Bb c)] w) rfl (⟨0,_,by omega,rfl,rfl,hs⟩) fun m E w hI=>?_))
 obtain ⟨k,G',hk,rfl,rfl,hs⟩:=hI
 refine Wt 2 [] hs rfl<|Zy hs (Yc rfl (fun h8=>?_) fun h8=>?_)
 ·
  refine Wp 8 [0] hs rfl<|Zy hs (Sh (vs:=List.map Bb c) (v:=Bb c[k]) k underlying86 isAgg84 sizeOf84 rfl rfl rfl oM (by rw [Aak,AaA oM];rfl) ?_)
  refine Wp 5 [0] hs rfl<|O_s (Sp (Uh) hs rfl fun v1 G' _ hR hG12 hs=>?_)
  obtain rfl:=hR
  refine Zy hs (Kn (c:=((Gr (c.take k)+Ou c[k]:Nat):Int)) rfl rfl oM (by have h1:=xC (c.take k);have:=pZ c[k];rw [Aag] at h1;omega)<|Wp 3 [0] hs rfl<|Zy hs (Ya (s:=((k+1:Nat):Int)) rfl<|Wp 1 [] hs rfl<|Zx [3,6,7] rfl ⟨k+1,_,by omega,rfl,by rw [nC c k oM],hs⟩))
 refine Wp 4 [0] hs rfl<|Wu 5 [0] hs rfl<|As<|Zz results135 rfl ?_
 obtain rfl:k=4:=by omega
 exact hs.q (by rw [Aab oM])
theorem add_ok {p:Nat} {c:List Nat} {x:UInt8} (hc:c.length=4) :
  Ba prog 147 [Vp p,.int .u8 (x.toNat:Int)] G [.blk p 86 (c.map Bb)] fun _ _ H'=>H'=[.blk p 86 ((Hp c x).map Bb)]:=by
 have hx:=x.toNat_lt
 have hcell:(c.map Bb)[x.toNat / 64]?=some (Bb (c.getD (x.toNat / 64) 0)):=by rw [Aak,AaA oM,AaH,AaA oM];rfl
 refine Ba.of_T [(0,_),(1,_)] func147 rfl ntmps147 sM rfl fun w0 hs =>Bg [0,1,2,3,4,5,6,7,8,9,10,11] hs kR ?_
 replace hs:=hs.drew
 refine Xr [0,1] [] hs rfl<|Xt 2 hs rfl (Y_quoU (c:=((x.toNat / 64:Nat):Int)) rfl rfl oM oM oM<|Xt 3 hs rfl (Ci rfl<|Xt 4 hs rfl (Bp (x.toNat / 64) underlying86 sizeOf84 rfl rfl rfl oM<|Xt 5 hs rfl (Ej 0 isAgg84 rfl rfl hcell<|Xr [6] [] hs rfl<|Xt 7 hs rfl (Gq (c:=((x.toNat % 64:Nat):Int)) rfl rfl oM oM oM<|Xt 8 hs rfl (wL (x.toNat % 64) oM rfl rfl<|Xt 9 hs rfl (mR rfl rfl<|Xt 10 hs rfl (Ci rfl<|Xt 11 hs rfl (Bp (x.toNat / 64) underlying86 sizeOf84 rfl rfl rfl oM<|Xn 12 rfl (Gc hs sizeOf84 rfl rfl rfl iA (cs':=(Hp c x).map Bb) (by unfold Hp;rw [Aad]) fun _ hs =>Fu kR (Pl (vs:=[]) results147 rfl trivial ?_)))))))))))
 try dsimp only [tup]
 exact ⟨_,_,hs,rfl⟩
theorem eB {v:Value} {l:List UInt8} (hb:Bd G v l) (hl:l.length≤1000000000) :
  Ba prog 100 [v] G [] fun r _ H'=>H'=[]∧r=Ig (Xb l):=by
 obtain ⟨A,cap,rfl,_⟩:=id hb
 refine Ba.of_T [(0,_)] func100 rfl ntmps100 sM rfl fun w0 hs=>?_
 have hb0:=hb
 refine Wt 2 [] hs rfl<|O_s (Bs hs zeroValue86 (cs:=(List.map Bb [0,0,0,0])) rfl fun b2 _ hs =>Wp 3 [0] hs rfl<|O_s (Bs hs zeroValue86 (cs:=(List.map Bb [0,0,0,0])) rfl fun b3 _ hs =>Wp 8 [0,0] hs rfl<|Zl [2,3,6,7,8] (fun m E w=>∃ (k:Nat) (G':Ah),k≤l.length∧m=l.length-k∧E=⟨[],[(2,Vp b2),(3,Vp b3),(6,(.slice A l.length cap)),(7,Vi ((l.length:Nat):Int)),(8,Vi (k:Int))]⟩∧St ⟨w0,G,Bj []⟩ G' [.blk b3 86 (List.map Bb (Xb (l.take k))),.blk b2 86 (List.map Bb [0,0,0,0])] w) rfl (⟨0,_,by omega,rfl,rfl,hs⟩) fun m E w hI=>?_))
 obtain ⟨k,G',hk,rfl,rfl,hs⟩:=hI
 have hb:=hb0.mono hs.le
 have h4:=Hq (l.take k)
 refine Wt 2 [] hs rfl<|Zy hs (Yc rfl (fun h9=>?_) fun h9=>?_)
 ·
  refine Wp 8 [0] hs rfl<|Zy hs (Ek hb k underlying22 sizeOf5 rfl rfl rfl oM fun p10 hp10 =>Zy hs (Yg rfl (hp10)<|Wp 4 [0] hs rfl<|O_s (Sc (add_ok (x:=l[k]) (Hq _)) hs rfl fun v1 G' H' _ hR hG13 hs=>?_)))
  obtain rfl:=hR
  replace hs:=hs.n rfl
  refine Wp 2 [0] hs rfl<|Zy hs (Ya (s:=((k+1:Nat):Int)) rfl<|Wp 1 [] hs rfl<|Zx [2,3,6,7,8] rfl ⟨k+1,_,by omega,rfl,rfl,by unfold Xb;rw [Bu _ _ l k oM];exact hs⟩)
 refine Wp 4 [0] hs rfl<|Wu 2 [] hs rfl<|Zy hs (Yk 0 rfl Ph<|O_n (Sw hs.f1 rfl (vs:=(List.map Bb (Xb (l.take k)))) Ph Ph (Dk _) fun _ hs=>Wp 1 [0] hs rfl<|As ?_))
 have hr:=hs
 refine By (vs:=[_]) results100 rfl ⟨Bq 0 hr isAgg86 sizeOf86 rfl (cs:=(List.map Bb (Xb (l.take k)))) rfl Ph,trivial⟩ ?_
 try dsimp only [tup]
 obtain rfl:k=l.length:=by omega
 exact hs.q (by rw [Aaj];rfl)
theorem Ta {G : Ah} {a b : List Nat} {gf : Nat} {fnn : Func} {op : Nat → Nat → Nat} (ha : a.length = 4) (hb : b.length = 4) (hfn : prog.funcs[gf]? = some fnn) (hbd : fnn.body.isSome = true) (hnm : (fnn.name == "runtime.NumGoroutine") = false) (hg : ∀ (G' : Ah) (x y : Nat), Ba prog gf [Bb x, Bb y] G' [] fun r _ H' => H' = [] ∧ r = Bb (op x y)) :
  Ba prog 156 [Ig a,Ig b,.func (.func gf) #[] #[]] G [] fun r _ H'=>H'=[]∧r=Ig (List.zipWith op a b):=by
 refine Ba.of_T [(0,_),(1,_),(2,_)] func156 rfl ntmps156 sM rfl fun w0 hs =>Wt 2 [] hs rfl<|O_s (Fj hs rfl (cs:=(List.map Bb a)) rfl fun b3 _ hs =>O_s (Fj hs rfl (cs:=(List.map Bb b)) rfl fun b4 _ hs =>O_s (Bs hs zeroValue86 (cs:=(List.map Bb [0,0,0,0])) rfl fun b6 _ hs =>Wp 3 [0] hs rfl<|O_s (Bs hs zeroValue86 (cs:=(List.map Bb [0,0,0,0])) rfl fun b7 _ hs =>Wp 6 [0,0] hs rfl<|Zl [2,3,4,6,7,9] (fun m E w=>∃ (k:Nat) (G':Ah),k≤4∧m=4-k∧E=⟨[],[(2,.func (.func gf) #[] #[]),(3,Vp b3),(4,Vp b4),(6,Vp b6),(7,Vp b7),(9,Vi (k:Int))]⟩∧St ⟨w0,G,Bj []⟩ G' [.blk b7 86 (List.map Bb ((List.zipWith op a b).take k++List.replicate (4-k) 0)),.blk b6 86 (List.map Bb [0,0,0,0]),.blk b4 86 (List.map Bb b),.blk b3 86 (List.map Bb a)] w) rfl (⟨0,_,by omega,rfl,rfl,by simpa using hs⟩) fun m E w hI=>?_))))
 obtain ⟨k,G',hk,rfl,rfl,hs⟩:=hI
 refine Wt 2 [] hs rfl<|Zy hs (Yc rfl (fun h10=>?_) fun h10=>?_)
 ·
  refine Wp 11 [0,0] hs rfl<|Bg [0,1,2,3,4,5,6,7,8,9] hs kR ?_
  replace hs:=hs.drew
  refine Xr [0,1,2] [] hs rfl<|Xt 3 hs rfl (Bp k underlying86 sizeOf84 rfl rfl rfl oM<|Xt 4 hs rfl (Ej 3 isAgg84 rfl rfl (fJ a k oM)<|Xr [5] [] hs rfl<|Xt 6 hs rfl (Bp k underlying86 sizeOf84 rfl rfl rfl oM<|Xt 7 hs rfl (Ej 2 isAgg84 rfl rfl (fJ b k oM) ?_))))
  have hle:=hs.le
  refine Xo 8 rfl (Jb (args:=[_,_]) (lb:=[]) (H1:=[]) hs rfl rfl hfn hbd hnm (hg _ _ _) fun v1 G' H' _ hR hG20 hs=>?_)
  obtain ⟨rfl,rfl⟩:=hR
  replace hs:=hs.n rfl
  refine Ai hs hle hG20 (lSr _)<|Xt 9 hs rfl (Bp k underlying86 sizeOf84 rfl rfl rfl oM<|Xn 10 rfl (Gc hs sizeOf84 rfl rfl rfl (by simp only [AaC,AaB,Aag,AaJ,Abw];omega) (cs':=_) rfl fun _ hs =>Xe (Zk [2,3,4,6,7,9] rfl ?_)))
  refine Zr<|Zy hs (Ya (s:=((k+1:Nat):Int)) rfl<|Wp 1 [] hs rfl<|Zx [2,3,4,6,7,9] rfl ⟨k+1,_,by omega,rfl,rfl,by rw [xD op a b k oM oM oM] at hs;exact hs⟩)
 refine Wp 4 [0] hs rfl<|Wu 2 [] hs rfl<|Zy hs (Yk 0 rfl Ph<|O_n (Sw hs.f1 rfl (vs:=(List.map Bb ((List.zipWith op a b).take k++List.replicate (4 - k) 0))) Ph Ph (Dk _) fun _ hs=>Wp 1 [0] hs rfl<|As ?_))
 have hr:=hs
 refine By (vs:=[_]) results156 rfl ⟨Bq 0 hr isAgg86 sizeOf86 rfl (cs:=(List.map Bb ((List.zipWith op a b).take k++List.replicate (4-k) 0))) rfl Ph,trivial⟩ ?_
 try dsimp only [tup]
 obtain rfl:k=4:=by omega
 exact hs.q (by show Ig _=_;rw [Aaw,AbH,AaX,Aab (by rw [Abw];omega)])
theorem not1_ok {x y:Nat} :
  Ba prog 159 [Bb x,Bb y] G [] fun r _ H'=>H'=[]∧r=Bb (Kr 18446744073709551615 x):=by
 refine Ba.of_T [(0,_),(1,_)] func159 rfl ntmps159 sM rfl fun w0 hs =>Wt 7 [0] hs rfl<|Zy hs (tH rfl<|Wp 2 [0] hs rfl<|As<|Zz results159 rfl ?_)
 exact hs.q rfl
theorem int1_ok {x y:Nat} :
  Ba prog 157 [Bb x,Bb y] G [] fun r _ H'=>H'=[]∧r=Bb (Dn x y):=by
 refine Ba.of_T [(0,_),(1,_)] func157 rfl ntmps157 sM rfl fun w0 hs =>Wt 8 [0] hs rfl<|Zy hs (Lp rfl rfl<|Wp 2 [0] hs rfl<|As<|Zz results157 rfl ?_)
 exact hs.q rfl
theorem uni1_ok {x y:Nat} :
  Ba prog 158 [Bb x,Bb y] G [] fun r _ H'=>H'=[]∧r=Bb (fA x y):=by
 refine Ba.of_T [(0,_),(1,_)] func158 rfl ntmps158 sM rfl fun w0 hs =>Wt 8 [0] hs rfl<|Zy hs (mR rfl rfl<|Wp 2 [0] hs rfl<|As<|Zz results158 rfl ?_)
 exact hs.q rfl
theorem yR {c:List Nat} (hc:c.length=4) :
  Ba prog 109 [Ig c] G [] fun r _ H'=>H'=[]∧r=Ig (Jw c):=by
 have hn:=aD hc
 refine Ba.of_T [(0,_)] func109 rfl ntmps109 sM rfl fun w0 hs =>Wt 2 [] hs rfl<|O_s (Fj hs rfl (cs:=(List.map Bb c)) rfl fun b1 _ hs =>O_s (Bs hs zeroValue86 (cs:=(List.map Bb [0,0,0,0])) rfl fun b2 _ hs =>Wp 3 [0] hs rfl<|Zy hs (Yk 1 rfl Ph<|Zy hs (Yk 1 rfl Ph<|O_s (Sp (Ta hc hc func159 rfl kR (fun _ _ _=>not1_ok)) hs rfl fun v1 G' _ hR hG5 hs=>?_)))))
 obtain rfl:=hR
 refine O_n (Sw hs rfl (vs:=(List.map Bb (Jw c))) Ph Ph (Dk _) fun _ hs=>Wp 1 [0] hs rfl<|As ?_)
 have hr:=hs
 refine By (vs:=[_]) results109 rfl ⟨Bq 0 hr isAgg86 sizeOf86 rfl (cs:=(List.map Bb (Jw c))) rfl Ph,trivial⟩ ?_
 try dsimp only [tup]
 exact hs.q rfl
theorem Jl {a b:List Nat} (ha:a.length=4) (hb:b.length=4) :
  Ba prog 107 [Ig a,Ig b] G [] fun r _ H'=>H'=[]∧r=Ig (Ef a b):=by
 have hn:=Kw ha hb
 refine Ba.of_T [(0,_),(1,_)] func107 rfl ntmps107 sM rfl fun w0 hs =>Wt 2 [] hs rfl<|O_s (Fj hs rfl (cs:=(List.map Bb a)) rfl fun b2 _ hs =>O_s (Fj hs rfl (cs:=(List.map Bb b)) rfl fun b3 _ hs =>O_s (Bs hs zeroValue86 (cs:=(List.map Bb [0,0,0,0])) rfl fun b4 _ hs =>Wp 3 [0] hs rfl<|Zy hs (Yk 2 rfl Ph<|Zy hs (Yk 1 rfl Ph<|O_s (Sp (Ta ha hb func157 rfl kR (fun _ _ _=>int1_ok)) hs rfl fun v1 G' _ hR hG7 hs=>?_))))))
 obtain rfl:=hR
 refine O_n (Sw hs rfl (vs:=(List.map Bb (Ef a b))) Ph Ph (Dk _) fun _ hs=>Wp 1 [0] hs rfl<|As ?_)
 have hr:=hs
 refine By (vs:=[_]) results107 rfl ⟨Bq 0 hr isAgg86 sizeOf86 rfl (cs:=(List.map Bb (Ef a b))) rfl Ph,trivial⟩ ?_
 try dsimp only [tup]
 exact hs.q rfl
theorem Gf {a b:List Nat} (ha:a.length=4) (hb:b.length=4) :
  Ba prog 108 [Ig a,Ig b] G [] fun r _ H'=>H'=[]∧r=Ig (Df a b):=by
 have hn:=Kx ha hb
 refine Ba.of_T [(0,_),(1,_)] func108 rfl ntmps108 sM rfl fun w0 hs =>Wt 2 [] hs rfl<|O_s (Fj hs rfl (cs:=(List.map Bb a)) rfl fun b2 _ hs =>O_s (Fj hs rfl (cs:=(List.map Bb b)) rfl fun b3 _ hs =>O_s (Bs hs zeroValue86 (cs:=(List.map Bb [0,0,0,0])) rfl fun b4 _ hs =>Wp 3 [0] hs rfl<|Zy hs (Yk 2 rfl Ph<|Zy hs (Yk 1 rfl Ph<|O_s (Sp (Ta ha hb func158 rfl kR (fun _ _ _=>uni1_ok)) hs rfl fun v1 G' _ hR hG7 hs=>?_))))))
 obtain rfl:=hR
 refine O_n (Sw hs rfl (vs:=(List.map Bb (Df a b))) Ph Ph (Dk _) fun _ hs=>Wp 1 [0] hs rfl<|As ?_)
 have hr:=hs
 refine By (vs:=[_]) results108 rfl ⟨Bq 0 hr isAgg86 sizeOf86 rfl (cs:=(List.map Bb (Df a b))) rfl Ph,trivial⟩ ?_
 try dsimp only [tup]
 exact hs.q rfl
theorem rB {c:List Nat} (hc:c.length=4) :
  Ba prog 130 [Ig c] G [] fun r G' H'=>H'=[]∧∃ b,r=.func (.func 167) #[] #[Vp b]∧Qh G' b c:=by
 refine Ba.of_T [(0,_)] func130 rfl ntmps130 sM rfl fun w0 hs =>Wt 2 [] hs rfl<|O_s (Fj hs rfl (cs:=(List.map Bb c)) rfl fun b1 _ hs =>Wp 4 [0] hs rfl<|Zy hs (He (vs:=[_]) rfl<|Wp 2 [0] hs rfl<|As<|Zz results130 rfl ?_))
 obtain ⟨G',hG,hf,hs3⟩:=hs.fixBlk (fun k _=>Gb k)
 exact ⟨G',[],hs3,rfl,_,rfl,hf⟩
theorem mem1_ok {lp b:Nat} {c:List Nat} {H0:List Res} {J:Nat→Ah→List Res→Prop} (hcb:Qh G b c) (hc:c.length=4) (hw:∀ w∈c,w<W64) (hT:Tab G) (hJm:∀ n G1 G2 H,Ah.le G1 G2→J n G1 H→J n G2 H)
  (hY:∀ n a G' H',(Br c)[n]?=some a→G.le G'→J n G' H'→Fl prog lp [.int .u8 (a.toNat:Int)] G' H' fun r G'' H''=>r=Vt∧J (n+1) G'' H'') (hJ0:J 0 G H0) :
  Ba prog 167 [.func (.yield lp) #[] #[],Vp b] G H0 fun _ G' H'=>J (Br c).length G' H':=by
 refine Ba.of_T [(0,_),(1,_)] func167 rfl ntmps167 sM rfl fun w0 hs=>?_
 have hcb0:=hcb
 have hT0:=hT
 refine Wt 2 [] hs rfl<|Zy hs (Db (vs:=List.map Bb c) isAgg86 sizeOf86 rfl hcb.whole (by rw [AaC,hc])<|Wp 2 [0] hs rfl<|Zl [0,5,6] (fun m E w=>∃ (k n:Nat) (G':Ah) (H':List Res),k≤4∧(Br c).drop n=Ma k (c.drop k)∧n≤(Br c).length∧J n G' H'∧m=4-k∧E=⟨[],[(0,.func (.yield lp) #[] #[]),(5,(Ig c)),(6,Vi (k:Int))]⟩∧St ⟨w0,G,Bj H0⟩ G' H' w) rfl (⟨0,0,_,_,by omega,rfl,by omega,hJ0,rfl,rfl,hs⟩) fun m E w hI=>?_)
 obtain ⟨k,n,G',H',hk,hd,hnl,hJ,rfl,rfl,hs⟩:=hI
 have hcb:=hcb0.mono hs.le
 have hT:=hT0.mono hs.le
 refine Wt 2 [] hs rfl<|Zy hs (Yc rfl (fun h7=>?_) fun h7=>?_)
 ·
  refine Wp 9 [0] hs rfl<|Zy hs (Sh (vs:=List.map Bb c) (v:=Bb c[k]) k underlying86 isAgg84 sizeOf84 rfl rfl rfl oM (fJ c k oM)<|Wp 3 [0] hs rfl ?_)
  have hwk:=hw c[k] (AaD (show k<c.length by omega))
  rw [Aaq (show k<c.length by omega),Ma] at hd
  refine Zl [0,3,4,5,6] (fun m E w=>∃ (n f wd:Nat) (G':Ah) (H':List Res),(Br c).drop n=Oc k f wd++Ma (k+1) (c.drop (k+1))∧wd≤f∧wd<W64∧n≤(Br c).length∧J n G' H'∧m=wd∧E=⟨[],[(0,.func (.yield lp) #[] #[]),(3,Vi (k:Int)),(4,Bb wd),(5,(Ig c)),(6,Vi (k:Int))]⟩∧St ⟨w0,G,Bj H0⟩ G' H' w) rfl (⟨n,c[k],c[k],_,_,hd,AaR _,hwk,hnl,hJ,rfl,rfl,hs⟩) fun m E w hI=>?_
  obtain ⟨n,f,wd,G',H',hd,hwf,hww,hnl,hJ,hmw,rfl,hs⟩:=hI
  have hcb:=hcb0.mono hs.le
  have hT:=hT0.mono hs.le
  refine Wt 4 [] hs rfl<|Zy hs (Yc rfl (fun h11=>?_) fun h11=>?_)
  ·
   obtain ⟨f,rfl⟩:∃ q,f=q+1:=⟨f-1,by omega⟩
   rw [Oc,if_neg oM,Abc] at hd
   obtain ⟨hn,hst,hd⟩:=xE hd
   replace hst:(Br c)[n]?=some (UInt8.ofNat (64*k+nA wd)):=by rw [AaA hn,hst]
   have htz:=xA wd
   refine Wp 9 [0] hs rfl<|Zy hs (iG (c:=((64*k:Nat):Int)) rfl rfl oM oM<|Wp 1 [] hs rfl<|O_s (Et (H1:=[]) (H:=H') hs rfl func168 rfl kR (tz_ok hT) fun v1 G' H' _ hR hG16 hs=>?_))
   obtain ⟨rfl,rfl⟩:=hR
   replace hs:St _ _ H' _:=hs
   replace hJ:=hJm _ _ _ _ hG16 hJ
   refine Zy hs (Ya (s:=((64*k+nA wd:Nat):Int)) rfl<|Zy hs (Dj underlying3 underlying5 (c:=((UInt8.ofNat (64*k+nA wd)).toNat:Int)) rfl (Dx _)<|O_s (pL (H1:=H') (H:=[]) (by rw [AaX];exact hs) rfl rfl (hY n _ _ _ hst hs.le hJ) fun v G'' H'' w' hR hG19 hs=>?_)))
   obtain ⟨rfl,hJ⟩:=hR
   rw [AaX] at hs
   refine Wp 7 [0] hs rfl<|Zy hs (Y_sub64 (b:=1) rfl rfl<|Zy hs (Lp rfl rfl<|Wp 1 [] hs rfl ?_))
   have h1:=Sq wd (Im wd 1)
   rw [Sr oM hww] at h1
   refine Cr ⟨_,?_,[(0,_),(3,_),(4,_),(5,_),(6,_)],⟨rfl,rfl,rfl,rfl,rfl,trivial⟩,⟨n+1,f,_,_,_,hd,by rw [Sr oM hww];omega,Gv _ _,by omega,hJ,rfl,rfl,hs⟩⟩
   rw [Sr oM hww];omega
  refine Wp 3 [0] hs rfl ?_
  refine Zr<|Zy hs (Ya (s:=((k+1:Nat):Int)) rfl<|Wp 1 [] hs rfl ?_)
  obtain rfl:wd=0:=by omega
  rw [dO,AbA] at hd
  refine Zx [0,5,6] rfl ⟨k+1,n,_,_,by omega,hd,hnl,hJ,rfl,rfl,hs⟩
 refine Wp 4 [0] hs rfl ?_
 try dsimp only [Ex.At,Ex.sqs,Ex.sq,Ex.lp,Ex.bk]
 try rw [show Nat.beq _ _=true from Nat.beq_refl _,cond_true]
 refine Pl (vs:=[]) results167 rfl trivial ?_
 try dsimp only [tup]
 obtain rfl:k=4:=by omega
 rw [AbU (by omega:c.length≤4)] at hd
 have hn:=List.drop_eq_nil_iff.1 hd
 obtain rfl:n=(Br c).length:=by omega
 exact ⟨_,_,hs,hJ⟩
theorem aseq_ok {b:Nat} {c:List Nat} (hcb:Qh G b c) (hc:c.length=4) (hw:∀ w∈c,w<W64) (hT:Tab G) :
  Ba prog 174 [Vn,.func (.func 167) #[] #[Vp b]] G [] fun r G' H'=>H'=[]∧Bd G' r (Br c):=by
 have hbl:=Qs hc hw
 refine Ba.of_TM [(0,_),(1,_)] func174 rfl ntmps174 sM rfl fun w0 hs =>Wt 2 [] hs rfl<|O_s (Sb hs rfl fun b2 _ hs=>Wp 7 [0,0] hs rfl ?_)
 have hs:=hs.nilRow 5 1
 have hs:=hs.f1.f1
 refine Wu 1 [] hs rfl<|iJ (H1:=[_,_]) (H:=[]) (R:=fun G' H2=>∃ (v:Value),H2=[.row 5 1 v (Br c).length (((Br c).take (Br c).length).map Dy),.blk b2 22 [v]]) hs rfl func167 rfl kR ?hit ?done
 case hit =>
  intro lp D rec hp ha hbd hst hpe hAg
  obtain ⟨state,pending,fn',tmps,params,assign,body,defers⟩:=rec
  dsimp only at hp ha hbd hst hpe hAg
  subst hst hpe
  refine Ba.mono (mem1_ok (lp:=lp) (J:=fun n G' H'=>n≤(Br c).length∧∃ (v:Value),H'=[.obj lp (.loop { state:=.ready,pending:=none,fn:=fn',tmps:=tmps,params:=params,assign:=assign,body:=body,defers:=defers }),.obj D (.deferred (some [])),.row 5 1 v n (((Br c).take n).map Dy),.blk b2 22 [v]]) hcb hc hw hT (fun _ _ _ _ _ h=>h) ?round ⟨by omega,_,rfl⟩) ?fin
  case fin =>
   rintro r G' H' _ ⟨_,v,rfl⟩
   exact ⟨_,rfl,v,rfl⟩
  rintro n a G' H' hst hle ⟨hnl,v7,rfl⟩
  obtain ⟨hn,ha'⟩:=AbN.1 hst
  subst hp ha hbd
  refine Fl.of_T hAg rfl rfl sM rfl fun w1 hs =>Wt 2 [] hs rfl<|Cr ⟨hs,fun w2 hs=>?_⟩
  refine Wt 4 [3] hs rfl<|O_s (Bw hs underlying22 sizeOf5 zeroValue5 rfl rfl dC dC rfl (cs:=[_]) rfl rfl fun v1 _ hs _=>?_)
  obtain ⟨_,hG10,hl10,hs⟩:=hs.fixRow (noMh hs ⟨fun _ h=>h,fun _ h=>h,fun _ h=>h,fun _ h=>h,trivial⟩)
  refine O_s (Au hs.f2 underlying22 cK rfl dC rfl rfl (hl10) (Cp rfl) oM oM fun v2 _ hs =>O_n (Sd hs.f3 rfl (hs.f3.rowOne 1 rfl) fun _ hs=>?_))
  have hs:=hs.f1.f3.f3
  refine Cr ⟨_,_,hs,rfl,hn,v2,?_⟩
  rw [cP _ n hn,ha']
 case done =>
  rintro lp D o' G' H2 w' ⟨v7,rfl⟩ hle hs
  refine Wt 5 [3,0] hs rfl<|As<|pN hs (vs:=[_]) results174 rfl (fun _ hs=>⟨⟨rfl,trivial⟩,?_⟩)
  try dsimp only [tup]
  have hs:=hs.f1
  obtain ⟨G',hG,hf,hs3⟩:=hs.fixRow noM
  exact ⟨G',[],hs3.done,rfl,Bd.ofSl hf rfl (by rw [Aaj])⟩
theorem coll_ok {b:Nat} {c:List Nat} (hcb:Qh G b c) (hc:c.length=4) (hw:∀ w∈c,w<W64) (hT:Tab G) :
  Ba prog 148 [.func (.func 167) #[] #[Vp b]] G [] fun r G' H'=>H'=[]∧Bd G' r (Br c):=by
 refine Ba.of_T [(0,_)] func148 rfl ntmps148 sM rfl fun w0 hs=>?_
 have hcb0:=hcb
 have hT0:=hT
 refine Wt 7 [0] hs rfl<|O_s (Sp (aseq_ok hcb hc hw hT) hs rfl fun v1 G' _ hb hG4 hs=>Wp 2 [0] hs rfl<|As<|Zz results148 rfl ?_)
 exact hs.q hb
theorem jX {c:List Nat} (hc:c.length=4) (hw:∀ w∈c,w<W64) (hT:Tab G) :
  Ba prog 102 [Ig c] G [] fun r G' H'=>H'=[]∧Bd G' r (Br c):=by
 refine Ba.of_T [(0,_)] func102 rfl ntmps102 sM rfl fun w0 hs=>?_
 have hT0:=hT
 refine Wt 2 [] hs rfl<|O_s (Fj hs rfl (cs:=(List.map Bb c)) rfl fun b1 _ hs =>Wp 4 [0] hs rfl<|Zy hs (Yk 0 rfl Ph<|O_s (Sp (rB hc) hs rfl fun v1 G' _ hR hG4 hs=>?_)))
 obtain ⟨b,rfl,hcb⟩:=hR
 replace hT:=hT.mono hG4
 refine O_s (Sp (coll_ok hcb hc hw hT) hs rfl fun v2 G' _ hb hG5 hs=>Wp 2 [0] hs rfl<|As<|Zz results102 rfl ?_)
 exact hs.q hb
theorem Qx:TI prog 3 (Vi 0) 1 8:=TI.of kR
theorem Pw:TI prog 4 (Vf) 1 1:=TI.of kR
theorem jY:TI prog 86 (.agg #[.int .u64 0,.int .u64 0,.int .u64 0,.int .u64 0]) 4 32:=TI.of kR
def Bx (n:Nat):Value:=Vi (n:Int)
abbrev Bl (n:Nat):Value:=Vi (n:Int)
def Da (b:Bool):Value:=.bool b
def Dt (G:Ah) (v:Value) (l:List Bool):Prop:=Sl G v 1 l.length (l.map Da)
theorem Dt.mono {G G':Ah} (h:G.le G') {v:Value} {l:List Bool} (hb:Dt G v l):Dt G' v l:=Sl.mono h hb
def NatsR (G:Ah) (c:List Value) (l:List Nat):Prop:=∃ v,c=[v]∧De G v l
def LN (G:Ah) (v:Value) (l:List (List Nat)):Prop:=Bi 1 NatsR G v l
theorem LN.mono {G G':Ah} (h:G.le G') {v:Value} {l:List (List Nat)} (hl:LN G v l):LN G' v l:=Bi.mono (fun _ _ ⟨v,e,hn⟩=>⟨v,e,hn.mono h⟩) h hl
def Co (cell:List Nat) (n:Nat) (vn va:Value):List Value:=cell.map Bx++[Vi (n:Int),vn,va]
theorem tabC_1 {cell:List Nat} {n:Nat} {vn va:Value} (h:cell.length=256):(Co cell n vn va)[256]?=some (Vi (n:Int)):=by
  unfold Co;rw [AaW iA,AaC,h];rfl
theorem Gu {cell:List Nat} {n:Nat} {vn va:Value} (h:cell.length=256):(Co cell n vn va)[257]?=some vn:=by
  unfold Co;rw [AaW iA,AaC,h];rfl
theorem Ld {cell:List Nat} {n:Nat} {vn va:Value} (h:cell.length=256):(Co cell n vn va)[258]?=some va:=by
  unfold Co;rw [AaW iA,AaC,h];rfl
theorem Qy {cell:List Nat} {n k:Nat} {vn va:Value} (h:cell.length=256) (hk:k<256):(Co cell n vn va)[k]?=some (Bx (cell.getD k 0)):=by
  unfold Co;rw [AaN iA,Aak,AaA oM,AaH,AaA oM];rfl
theorem Cf {cell:List Nat} {n:Nat} {vn va:Value} (h:cell.length=256):(Co cell n vn va).length=259:=by unfold Co;simp [h]
def iC (G:Ah) (v:Value) (t:Tb):Prop:=∃ vn va,v=.agg (Co t.cell t.cells vn va).toArray∧t.cell.length=256∧LN G vn t.next∧Dt G va t.acc
theorem iC.mono {G G':Ah} (h:G.le G') {v:Value} {t:Tb} (ht:iC G v t):iC G' v t:=by
  obtain ⟨vn,va,e,h1,h2,h3⟩:=ht
  exact ⟨vn,va,e,h1,h2.mono h,h3.mono h⟩
theorem Jd {l:List Nat} {i:Nat} (h:i<l.length):(l.map Bl)[i]?=some (Bl (l[i]'h)):=by rw [Aak,AaA h];rfl
theorem Dm {l:List Bool} {i:Nat} (h:i<l.length):(l.map Da)[i]?=some (.bool (l[i]'h)):=by rw [Aak,AaA h];rfl
theorem Ox (n:Nat):List.replicate n (Value.bool false)=(List.replicate n false).map Da:=by rw [Abk];rfl
theorem Hy (n:Nat):List.replicate n (Value.int .i64 0)=(List.replicate n 0).map Bl:=by rw [Abk];rfl
theorem Bn {α:Type} {l:List α} {i:Nat} {d:α} (h:i<l.length):l.getD i d=l[i]:=by rw [AaH,AaA h];rfl
def Tb.ok (t:Tb):Prop:=1≤t.next.length∧t.next.length≤5000∧t.acc.length=t.next.length∧t.cells≤256∧(∀ r∈t.next,r.length=t.cells∧∀ x∈r,x<t.next.length)∧∀ c∈t.cell,c<t.cells
theorem rC {st:Rch} {x:Nat} (h:x<st.1.length) (hx:st.1[x]=true):Jx st x=st:=by unfold Jx;rw [Bn h,if_pos hx]
theorem jZ {st:Rch} {x:Nat} (h:x<st.1.length) (hx:st.1[x]=false):Jx st x=(st.1.set x true,st.2++[x]):=by unfold Jx;rw [Bn h,hx];rfl
theorem Xh {l:List Bool} {x:Nat} (h:x<l.length) (hx:l[x]=false):(l.set x true).count false+1=l.count false:=by
  rw [List.count_set (h:=h),hx]
  have:0<l.count false:=List.count_pos_iff.2 (by rw [← hx];exact AaD h)
  simp;omega
theorem rchG_go {t:Tb} {f i:Nat} {seen:List Bool} {l:List Nat} (h:i<l.length) (hs:l[i]<t.next.length):Ss t (f+1) i (seen,l)=Ss t f (i+1) ((t.next[l[i]]'hs).foldl Jx (seen,l)):=by
  rw [Ss,if_pos h,Bn h,Bn hs]
theorem yS {t:Tb} {f i:Nat} {seen:List Bool} {l L:List Nat} (h:l.length≤i) (hr:Ss t f i (seen,l)=some L):L=l:=by
  cases f with
  | zero=>cases hr
  | succ f=>rw [Ss,if_neg Eo] at hr;injection hr with hr;exact hr.symm
theorem yT {t:Tb} {f i:Nat} {st:Rch} {L:List Nat} (hr:Ss t f i st=some L):0<f:=by
  cases f with
  | zero=>cases hr
  | succ f=>omega
theorem Fb {α β:Type} (f:β→α→β) (z:β) (l:List α) (k:Nat) (h:k<l.length):(l.take (k+1)).foldl f z=f ((l.take k).foldl f z) l[k]:=Bu f z l k h
theorem rch_ok {v:Value} {t:Tb} {L:List Nat} (ht:iC G v t) (hok:t.ok) (hL:Ul t=some L) :
  Ba prog 143 [v] G [] fun r G' H'=>H'=[]∧De G' r L:=by
 obtain ⟨un,ua,rfl,hcl,hN,hA⟩:=ht
 obtain ⟨An,cn,rfl⟩:=Bi.slice hN
 obtain ⟨Aa,ca,rfl,_⟩:=id hA
 obtain ⟨hn1,hn2,_,_,hrows,_⟩:=hok
 unfold Ul at hL
 refine Ba.of_T [(0,_)] func143 rfl ntmps143 sM rfl fun w0 hs=>?_
 have hN0:=hN
 refine Wt 2 [] hs rfl<|O_s (Fj hs rfl (cs:=_) rfl fun b1 _ hs =>Wp 5 [0,257] hs rfl<|Zy hs (Ej 0 isAgg35 rfl rfl (Gu hcl)<|Wp 1 [] hs rfl<|O_s (Dw (n:=t.next.length) (m:=t.next.length) hs underlying30 Pw rfl rfl rfl oM oM oM fun b11 _ hs =>Wp 5 [0] hs rfl<|Zy hs (Be (0) underlying30 sizeOf4 rfl rfl rfl oM<|O_n (Bz hs sizeOf4 rfl rfl rfl oM fun _ hs =>Wp 3 [0] hs rfl<|O_s (Bw hs underlying79 sizeOf3 zeroValue3 rfl rfl dC dC rfl (cs:=[_]) rfl rfl fun v1 _ hs _ =>Wp 7 [0,0] hs rfl ?_))))))
 have hs:=hs.f2.f1.f2
 have hc0:((List.replicate t.next.length false).set 0 true).count false+1=t.next.length:=by rw [Xh tE sM];simp
 rw [Ox] at hs
 refine Zl [1,3,4,5] (fun m E w=>∃ (f i:Nat) (sn:List Bool) (l:List Nat) (v4:Value) (G2:Ah),Ss t f i (sn,l)=some L∧sn.length=t.next.length∧(∀ x∈l,x<t.next.length)∧l.length+sn.count false=t.next.length∧i≤l.length∧m=f∧E=⟨[],[(1,Vp b1),(3,Vs b11 t.next.length t.next.length),(4,v4),(5,Vi (i:Int))]⟩∧St ⟨w0,G,Bj []⟩ G2 [.row 4 1 (Vs b11 t.next.length t.next.length) t.next.length (sn.map Da),.row 3 1 (v4) l.length (l.map Bl),.blk b1 160 (Co t.cell t.cells (.slice An t.next.length cn) (.slice Aa t.acc.length ca))] w) rfl (⟨t.next.length+1,0,_,[0],_,_,hL,by simp,by intro x hx;rw [AaE.1 hx];omega,by simp only [Aac];omega,by omega,rfl,rfl,by rw [Aad];exact hs⟩) fun m E w hI=>?_
 obtain ⟨f,i,sn,l,v4,G2,hrg,hsl,hlN,hcn,hil,rfl,rfl,hs⟩:=hI
 have hN:=hN0.mono hs.le
 refine Wt 5 [] hs rfl<|Zy hs (Dl 1 rfl underlying79 rfl hs<|Zy hs (Yc rfl (fun h18=>?_) fun h18=>?_))
 ·
  refine Wp 3 [0] hs rfl ?_
  obtain ⟨s,hse⟩:∃ s,s=l[i]'oM:=⟨_,rfl⟩
  have hsN:s<t.next.length:=hlN s Z46
  refine Wu 3 [] hs rfl<|Bg [0,1,2,3,4,5,6,7,8,9] hs kR ?_
  replace hs:=hs.drew
  refine Xr [0] [257] hs rfl<|Xt 1 hs rfl (Ej 2 isAgg35 rfl rfl (Gu hcl)<|Xr [2,3] [] hs rfl<|Xt 4 hs rfl (iL (j:=((i:Nat):Int)) (i) 1 rfl underlying79 sizeOf3 rfl rfl rfl oM (u:=Bl s) (by rw [hse];exact Jd oM) hs fun p25 hp25 =>Xt 5 hs rfl (pO isAgg3 rfl hp25<|Xt 6 hs rfl (Ca hN s underlying35 sizeOf79 rfl rfl rfl hsN fun p27 c27 hp27 hc27 hR27=>?_))))
  obtain ⟨rr,hre⟩:∃ r,r=t.next[s]'hsN:=⟨_,rfl⟩
  rw [← hre] at hR27
  have hrl:rr.length≤256:=by have h:=(hrows rr (by rw [hre];exact AaD _)).1;omega
  obtain ⟨u28,rfl,hr⟩:=hR27
  obtain ⟨A28,c28,rfl,_⟩:=id hr
  refine Xt 7 hs rfl (Yg rfl (hp27 0 (.slice A28 rr.length c28) rfl)<|Xr [8,9] [] hs rfl<|Xe (Zk [1,3,4,5,28,29,30] rfl ?_))
  have hs:=hs.f2.f2.f2
  refine Zl [1,3,4,5,28,29,30] (fun m E w=>∃ (k:Nat) (sn2:List Bool) (l2:List Nat) (v4:Value) (G2:Ah),k≤rr.length∧(sn2,l2)=(rr.take k).foldl Jx (sn,l)∧sn2.length=t.next.length∧(∀ x∈l2,x<t.next.length)∧l2.length+sn2.count false=t.next.length∧i+1≤l2.length∧De G2 (.slice A28 rr.length c28) rr∧m=rr.length-k∧E=⟨[],[(1,Vp b1),(3,Vs b11 t.next.length t.next.length),(4,v4),(5,Vi (i:Int)),(28,.slice A28 rr.length c28),(29,Vi ((rr.length:Nat):Int)),(30,Vi (k:Int))]⟩∧St ⟨w0,G,Bj []⟩ G2 [.row 4 1 (Vs b11 t.next.length t.next.length) t.next.length (sn2.map Da),.row 3 1 (v4) l2.length (l2.map Bl),.blk b1 160 (Co t.cell t.cells (.slice An t.next.length cn) (.slice Aa t.acc.length ca))] w) rfl (⟨0,sn,l,_,_,by omega,rfl,hsl,hlN,hcn,by omega,hr,rfl,rfl,hs⟩) fun m E w hI=>?_
  obtain ⟨k,sn2,l2,v4,G2,hk,hfo,hsl2,hlN2,hcn2,hil2,hr,rfl,rfl,hs⟩:=hI
  have hN:=hN0.mono hs.le
  refine Wt 2 [] hs rfl<|Zy hs (Yc rfl (fun h31=>?_) fun h31=>?_)
  ·
   refine Wp 8 [0] hs rfl<|Zy hs (Ct hr k underlying79 sizeOf3 rfl rfl rfl oM fun p32 hp32=>?_)
   obtain ⟨x,hxe⟩:∃ x,x=rr[k]'oM:=⟨_,rfl⟩
   rw [← hxe] at hp32
   have hxN:x<t.next.length:=(hrows rr (by rw [hre];exact AaD _)).2 x Z47
   refine Zy hs (Yg rfl (hp32)<|Wp 6 [0] hs rfl<|Zy hs (Be (x) underlying30 sizeOf4 rfl rfl rfl oM ?_))
   obtain ⟨q37,hq37⟩:∃ q,q=sn2[x]'oM:=⟨_,rfl⟩
   refine Zy hs (Cm 0 rfl isAgg4 rfl (show (sn2.map Da)[x]?=some (.bool q37) from by rw [hq37];exact Dm oM) ?_)
   cases q37
   ·
    refine Wp 7 [0] hs rfl<|Zy hs (Be (x) underlying30 sizeOf4 rfl rfl rfl oM<|O_n (Bz hs sizeOf4 rfl rfl rfl oM fun _ hs =>Wp 4 [0] hs rfl<|O_s (Bw hs underlying79 sizeOf3 zeroValue3 rfl rfl dC dC rfl (cs:=[_]) rfl rfl fun v2 _ hs _=>?_)))
    obtain ⟨_,hG44,hl44,hs⟩:=hs.fixRow noM
    refine O_s (Au hs.f1 underlying79 Qx rfl dC rfl rfl (hl44) (Cp rfl) oM oM fun v3 _ hs =>Wp 3 [0] hs rfl<|Zy hs (Ya (s:=((k+1:Nat):Int)) rfl<|Wp 1 [] hs rfl ?_))
    have hs:=hs.f2.f1.f2
    have hst:=jZ (st:=(sn2,l2)) (x:=x) Eo hq37.symm
    have hcn2:=Xh (l:=sn2) (x:=x) oM hq37.symm
    replace hr:=hr.mono hG44
    refine Zx [1,3,4,5,28,29,30] rfl ⟨k+1,sn2.set x true,l2++[x],_,_,by omega,by rw [Fb _ _ _ _ oM,← hxe,← hfo,hst],by rw [AaP];exact hsl2,by intro y hy;rcases AaS.1 hy with hy | hy;exact hlN2 y hy;rw [AaE.1 hy];exact hxN,by rw [AaB,Aac];omega,by rw [AaB];omega,hr,rfl,rfl,by simpa [Aad,Bl,Da] using hs.wk [_,_,_]⟩
   refine Wp 5 [0] hs rfl<|Zy hs (Ya (s:=((k+1:Nat):Int)) rfl<|Wp 1 [] hs rfl ?_)
   have hs:=hs.f2.f2.f2
   have hst:=rC (st:=(sn2,l2)) (x:=x) Eo hq37.symm
   refine Zx [1,3,4,5,28,29,30] rfl ⟨k+1,sn2,l2,_,_,by omega,by rw [Fb _ _ _ _ oM,← hxe,← hfo,hst],hsl2,hlN2,hcn2,hil2,hr,rfl,rfl,hs⟩
  refine Wp 4 [0] hs rfl<|Wu 2 [] hs rfl<|Zy hs (Ya (s:=((i+1:Nat):Int)) rfl<|Wp 1 [] hs rfl ?_)
  have hs:=hs.f2.f2.f2
  obtain rfl:k=rr.length:=by omega
  rw [Aaj] at hfo
  have hfp:=yT hrg
  obtain ⟨f1,rfl⟩:∃ g,m=g+1:=⟨m-1,by omega⟩
  have hgo:=(rchG_go (f:=f1) (seen:=sn) (show i<l.length by omega) (by rw [← hse];exact hsN)).symm.trans hrg
  simp only [← hse,← hre,← hfo] at hgo
  refine Zx [1,3,4,5] rfl ⟨f1,i+1,sn2,l2,_,_,hgo,hsl2,hlN2,hcn2,hil2,rfl,rfl,hs⟩
 refine Wp 3 [0] hs rfl<|Wu 5 [0] hs rfl<|As ?_
 have hs:=hs.f1
 refine Zz results143 rfl ?_
 obtain rfl:=yS oM hrg
 obtain ⟨G9,hG9,hf,hs⟩:=hs.fixRow noM
 exact hs.q hf
theorem one2 {a b:Int} {k:IntKind}:∀ y∈[Value.int k a,.int k b],y.oneCell'=true:=by
  intro y hy
  simp only [AaV,AbI,or_false] at hy
  rcases hy with rfl | rfl<;>rfl
theorem eC (x:Nat):((x:Int)).fdiv (2 ^ (min (8:Int).toNat IntKind.i64.bits))=((x / 256:Nat):Int):=by
  show ((x:Int)).fdiv 256=_
  rw [Int.fdiv_eq_ediv_of_nonneg _ dC];omega
theorem aW:Hf prog 9 Ji:=Hf.str underlying9
theorem kA {t:Tb} {l:List Nat} {k:Nat} (h:k<l.length) (b:List Nat):(l.take (k+1)).foldl (fun b s=>if t.acc.getD s false=true then b.set s 1 else b) b=(fun b s=>if t.acc.getD s false=true then b.set s 1 else b) ((l.take k).foldl (fun b s=>if t.acc.getD s false=true then b.set s 1 else b) b) l[k]:=Bu _ _ _ _ h
theorem fW {t:Tb} {bl nx rp:List Nat} {ks:List (List UInt8)} {s:Nat} (h:Bc (Hr t bl s) ks<ks.length):Xc t bl ⟨ks,nx,rp⟩ s=⟨ks,nx.set s (Bc (Hr t bl s) ks),rp⟩:=by
  unfold Xc;simp only [if_pos h]
theorem fX {t:Tb} {bl nx rp:List Nat} {ks:List (List UInt8)} {s:Nat} (h:¬ Bc (Hr t bl s) ks<ks.length):Xc t bl ⟨ks,nx,rp⟩ s=⟨ks++[Hr t bl s],nx.set s rp.length,rp++[s]⟩:=by
  unfold Xc;simp only [if_neg h]
theorem Ix {α:Type} [DecidableEq α] {k:α} {ks:List α} (hn:ks.Nodup) (h:¬ Bc k ks<ks.length):(ks++[k]).Nodup:=by
  rw [AbQ]
  refine ⟨hn,by simp,fun a ha b hb=>?_⟩
  obtain rfl:=AaE.1 hb
  intro e;subst e;exact h (Cb.2 ha)
theorem rG {t:Tb} {l:List Nat} {f c:Nat} {b:List Nat} {R:List Nat×List Nat} (hr:mD t l f b c=some R):0<f:=by
  cases f with
  | zero=>cases hr
  | succ f=>omega
theorem rH {t:Tb} {l:List Nat} {f c:Nat} {b nx rp:List Nat} {ks:List (List UInt8)} {R:List Nat×List Nat} (he:(⟨ks,nx,rp⟩:Rf)=rfR t l b) (hc:rp.length=c) (hr:mD t l (f+1) b c=some R):R=(nx,rp):=by
  rw [mD] at hr
  simp only [← he] at hr
  rw [if_pos hc] at hr;injection hr with hr;exact hr.symm
theorem yU {t:Tb} {l:List Nat} {f c:Nat} {b nx rp:List Nat} {ks:List (List UInt8)} {R:List Nat×List Nat} (he:(⟨ks,nx,rp⟩:Rf)=rfR t l b) (hc:¬ rp.length=c) (hr:mD t l (f+1) b c=some R):mD t l f nx rp.length=some R:=by
  rw [mD] at hr
  simp only [← he] at hr
  rwa [if_neg hc] at hr
theorem Xi (x:Nat):(two x).length=2:=rfl
theorem kB {b r:List Nat} {j:Nat} (h:j<r.length):(r.take (j+1)).flatMap (fun x=>two (b.getD x 0))=(r.take j).flatMap (fun x=>two (b.getD x 0))++two (b.getD r[j] 0):=by
  rw [Aay,AaA h,Abl];simp
theorem rJ {b r:List Nat}:(r.flatMap fun x=>two (b.getD x 0)).length=2*r.length:=by
  induction r with
  | nil=>rfl
  | cons x r ih=>rw [Aan,AaB,ih,Xi,AaZ];omega
theorem uO {v vl:Value} {t:Tb} {l B R:List Nat} (ht:iC G v t) (hok:t.ok) (hl:De G vl l) (hll:l.length≤5000) (hlN:∀ x∈l,x<t.next.length) (hR:Pq t l=some (B,R)) :
  Ba prog 142 [v,vl] G [] fun r G' H'=>H'=[]∧∃ vb vr,r=.tuple #[vb,vr]∧De G' vb B∧De G' vr R:=by
 obtain ⟨un,ua,rfl,hcl,hN,hA⟩:=ht
 obtain ⟨An,cn,rfl⟩:=Bi.slice hN
 obtain ⟨Aa,ca,rfl,_⟩:=id hA
 obtain ⟨Al,cl,rfl,_⟩:=id hl
 obtain ⟨hn1,hn2,hal,hce,hrows,_⟩:=hok
 unfold Pq at hR
 refine Ba.of_T [(0,_),(1,_)] func142 rfl ntmps142 sM rfl fun w0 hs=>?_
 have hN0:=hN
 have hA0:=hA
 have hl0:=hl
 refine Wt 2 [] hs rfl<|O_s (Fj hs rfl (cs:=_) rfl fun b2 _ hs =>Wp 6 [0,257] hs rfl<|Zy hs (Ej 0 isAgg35 rfl rfl (Gu hcl)<|Wp 1 [] hs rfl<|O_s (Dw (n:=t.next.length) (m:=t.next.length) hs underlying79 Qx rfl rfl rfl oM oM oM fun b23 _ hs =>Wp 9 [0,0] hs rfl ?_)))
 have hs:=hs.f1.f1
 rw [Hy] at hs
 refine Kd (Ud (fun m E w=>∃ (k:Nat) (bl:List Nat) (G2:Ah),k≤l.length∧bl=(l.take k).foldl (fun b s=>if t.acc.getD s false=true then b.set s 1 else b) (List.replicate t.next.length 0)∧bl.length=t.next.length∧m=l.length-k∧E=⟨[],[(1,(.slice Al l.length cl)),(2,Vp b2),(6,Vs b23 t.next.length t.next.length),(24,(.slice Al l.length cl)),(25,Vi ((l.length:Nat):Int)),(26,Vi (k:Int))]⟩∧St ⟨w0,G,Bj []⟩ G2 [.row 3 1 (Vs b23 t.next.length t.next.length) t.next.length (bl.map Bl),.blk b2 160 (Co t.cell t.cells (.slice An t.next.length cn) (.slice Aa t.acc.length ca))] w) (L:=[(1,_),(2,_),(6,_),(24,_),(25,_),(26,_)]) ⟨rfl,rfl,rfl,rfl,rfl,rfl,trivial⟩ (⟨0,_,_,by omega,rfl,by simp,rfl,rfl,hs⟩) fun m E w hI=>?_)
 obtain ⟨k,bl,G2,hk,hfo,hbl,rfl,rfl,hs⟩:=hI
 have hN:=hN0.mono hs.le
 have hA:=hA0.mono hs.le
 have hl:=hl0.mono hs.le
 refine Wt 2 [] hs rfl<|Zy hs (Yc rfl (fun h27=>?_) fun h27=>?_)
 ·
  refine Wp 8 [0] hs rfl<|Zy hs (Ct hl k underlying79 sizeOf3 rfl rfl rfl oM fun p28 hp28=>?_)
  obtain ⟨s,hse⟩:∃ s,s=l[k]'oM:=⟨_,rfl⟩
  rw [← hse] at hp28
  have hsN:s<t.next.length:=hlN s Z46
  refine Zy hs (Yg rfl (hp28)<|Wp 5 [0,258] hs rfl<|Zy hs (Ej 1 isAgg30 rfl rfl (Ld hcl)<|Wp 1 [] hs rfl<|Zy hs (Ee s underlying30 sizeOf4 hA rfl rfl rfl (Dm oM) fun p33 hp33 =>Zy hs (Yg rfl (hp33)<|Wp 1 [0] hs rfl<|Fk rfl (fun h34=>?_) (fun h34=>?_)))))
  ·
   refine Wu 3 [] hs rfl<|Zy hs (Be (s) underlying79 sizeOf3 rfl rfl rfl oM<|O_n (Bz hs sizeOf3 rfl rfl rfl oM fun _ hs =>Wp 2 [0] hs rfl<|Zy hs (Ya (s:=((k+1:Nat):Int)) rfl<|Wp 1 [] hs rfl ?_)))
   have hs:=hs.f1.f1
   have hacc:t.acc.getD s false=true:=by rw [Bn oM];exact h34
   refine Cr ⟨_,?_,[(1,_),(2,_),(6,_),(24,_),(25,_),(26,_)],⟨rfl,rfl,rfl,rfl,rfl,rfl,trivial⟩,⟨k+1,bl.set s 1,_,by omega,by rw [kA oM,← hse,← hfo];dsimp only;rw [hacc];rfl,by simp [hbl],rfl,rfl,by rw [Aad];exact hs⟩⟩
   omega
  refine Wu 2 [] hs rfl<|Zy hs (Ya (s:=((k+1:Nat):Int)) rfl<|Wp 1 [] hs rfl ?_)
  have hs:=hs.f1.f1
  have hacc:t.acc.getD s false=false:=by rw [Bn oM];exact h34
  refine Cr ⟨_,?_,[(1,_),(2,_),(6,_),(24,_),(25,_),(26,_)],⟨rfl,rfl,rfl,rfl,rfl,rfl,trivial⟩,⟨k+1,bl,_,by omega,by rw [kA oM,← hse,← hfo];dsimp only;rw [hacc];rfl,by simp [hbl],rfl,rfl,hs⟩⟩
  omega
 refine Wp 4 [0] hs rfl<|Wu 4 [0] hs rfl ?_
 obtain rfl:k=l.length:=by omega
 rw [Aaj] at hfo
 refine Kd (Ud (fun m E w=>∃ (f c b6:Nat) (bl:List Nat) (G2:Ah),mD t l f bl c=some (B,R)∧bl.length=t.next.length∧c≤5000∧m=f∧E=⟨[],[(1,(.slice Al l.length cl)),(2,Vp b2),(6,Vs b6 t.next.length t.next.length),(9,Vi (c:Int))]⟩∧St ⟨w0,G,Bj []⟩ G2 [.row 3 1 (Vs b6 t.next.length t.next.length) t.next.length (bl.map Bl),.blk b2 160 (Co t.cell t.cells (.slice An t.next.length cn) (.slice Aa t.acc.length ca))] w) (L:=[(1,_),(2,_),(6,_),(9,_)]) ⟨rfl,rfl,rfl,rfl,trivial⟩ (⟨t.next.length+2,0,b23,bl,_,by rw [hfo];exact hR,hbl,by omega,rfl,rfl,hs⟩) fun m E w hI=>?_)
 obtain ⟨f,c,b6,bl,G2,hrg,hbl,hc5,rfl,rfl,hs⟩:=hI
 have hN:=hN0.mono hs.le
 have hA:=hA0.mono hs.le
 have hl:=hl0.mono hs.le
 refine Wt 3 [] hs rfl<|O_s (Fm hs fun b39 _ hs =>Wp 6 [0] hs rfl<|O_s (Dw (n:=t.next.length) (m:=t.next.length) hs underlying79 Qx rfl rfl rfl oM oM oM fun b42 _ hs =>Wp 13 [0,0,0] hs rfl ?_))
 have hfp:=rG hrg
 obtain ⟨f1,rfl⟩:∃ g,m=g+1:=⟨m-1,by omega⟩
 have hs:=hs.nilRow 3 1
 have hs:=hs.f4.f4.f2.f3.f4
 rw [Hy] at hs
 refine Kd (Ud (fun m E w=>∃ (k:Nat) (ks:List (List UInt8)) (nx rp:List Nat) (v12:Value) (G2:Ah),k≤l.length∧(⟨ks,nx,rp⟩:Rf)=(l.take k).foldl (Xc t bl) ⟨[],List.replicate bl.length 0,[]⟩∧ks.Nodup∧ks.length=rp.length∧nx.length=t.next.length∧rp.length≤k∧m=l.length-k∧E=⟨[],[(1,(.slice Al l.length cl)),(2,Vp b2),(6,Vs b6 t.next.length t.next.length),(9,Vi (c:Int)),(10,.map (some b39)),(11,Vs b42 t.next.length t.next.length),(12,v12),(43,(.slice Al l.length cl)),(44,Vi ((l.length:Nat):Int)),(45,Vi (k:Int))]⟩∧St ⟨w0,G,Bj []⟩ G2 [.obj b39 (.map (En Ji ks).toArray ks.length),.row 3 1 (Vs b42 t.next.length t.next.length) t.next.length (nx.map Bl),.row 3 1 (v12) rp.length (rp.map Bl),.row 3 1 (Vs b6 t.next.length t.next.length) t.next.length (bl.map Bl),.blk b2 160 (Co t.cell t.cells (.slice An t.next.length cn) (.slice Aa t.acc.length ca))] w) (L:=[(1,_),(2,_),(6,_),(9,_),(10,_),(11,_),(12,_),(43,_),(44,_),(45,_)]) ⟨rfl,rfl,rfl,rfl,rfl,rfl,rfl,rfl,rfl,rfl,trivial⟩ (⟨0,[],List.replicate bl.length 0,[],_,_,by omega,rfl,Aaz,rfl,by simp [hbl],by simp,rfl,rfl,by rw [hbl];exact hs⟩) fun m E w hI=>?_)
 obtain ⟨k,ks,nx,rp,v12,G2,hk,hfo,hnd,hkl,hnl,hrk,rfl,rfl,hs⟩:=hI
 have hN:=hN0.mono hs.le
 have hA:=hA0.mono hs.le
 have hl:=hl0.mono hs.le
 refine Wt 2 [] hs rfl<|Zy hs (Yc rfl (fun h46=>?_) fun h46=>?_)
 ·
  refine Wp 8 [0] hs rfl<|Zy hs (Ct hl k underlying79 sizeOf3 rfl rfl rfl oM fun p47 hp47=>?_)
  obtain ⟨s,hse⟩:∃ s,s=l[k]'oM:=⟨_,rfl⟩
  rw [← hse] at hp47
  have hsN:s<t.next.length:=hlN s Z46
  refine Zy hs (Yg rfl (hp47)<|Wp 5 [0,257] hs rfl<|Zy hs (Ej 4 isAgg35 rfl rfl (Gu hcl)<|Wp 1 [] hs rfl<|Zy hs (Ca hN s underlying35 sizeOf79 rfl rfl rfl oM fun p52 c52 hp52 hc52 hR52=>?_)))
  obtain ⟨rr,herr⟩:∃ r,r=t.next[s]'oM:=⟨_,rfl⟩
  rw [← herr] at hR52
  have hlrr:rr.length=t.cells∧∀ x∈rr,x<t.next.length:=hrows rr vW
  obtain ⟨u52,rfl,hrr⟩:=hR52
  obtain ⟨A52,c52,rfl,_⟩:=id hrr
  refine Zy hs (Yg rfl (hp52 0 (.slice A52 rr.length c52) rfl)<|Wp 1 [] hs rfl<|Zy hs (iG (c:=((2*rr.length:Nat):Int)) rfl rfl oM oM<|Zy hs (Ya (s:=((2*rr.length+2:Nat):Int)) rfl<|O_s (Dw (n:=0) (m:=(2*rr.length+2)) hs underlying22 cK rfl rfl rfl oM oM oM fun b57 _ hs =>Wp 2 [0] hs rfl ?_))))
  obtain ⟨x0,hx0⟩:∃ x,x=bl[s]'oM:=⟨_,rfl⟩
  refine Wu 1 [] hs rfl<|Bg [0,1,2,3,4,5,6,7,8,9,10,11,12] hs kR ?_
  replace hs:=hs.drew
  refine Xr [0,1,2] [] hs rfl<|Xt 3 hs rfl (Be (s) underlying79 sizeOf3 rfl rfl rfl oM<|Xt 4 hs rfl (Cm 4 rfl isAgg3 rfl (show (bl.map Bl)[s]?=some (Bl x0) from by rw [hx0];exact Jd oM)<|Xt 5 hs rfl (Dj underlying3 underlying5 (c:=((UInt8.ofNat x0).toNat:Int)) rfl (Dx _)<|Xr [6,7] [] hs rfl<|Xt 8 hs rfl (Be (s) underlying79 sizeOf3 rfl rfl rfl oM<|Xt 9 hs rfl (Cm 4 rfl isAgg3 rfl (show (bl.map Bl)[s]?=some (Bl x0) from by rw [hx0];exact Jd oM)<|Xt 10 hs rfl (Mh (c:=((x0 / 256:Nat):Int)) rfl rfl dC (eC _)<|Xt 11 hs rfl (Dj underlying3 underlying5 (c:=((UInt8.ofNat (x0 / 256)).toNat:Int)) rfl (Dx _) ?_)))))))
  have hle:=hs.le
  refine Xo 12 rfl (Se hs zeroValue5 rfl fun v1 _ hs _=>?_)
  obtain ⟨_,hG70,hl70,hs⟩:=hs.fixRow noM
  replace hN:=hN.mono hG70
  replace hA:=hA.mono hG70
  replace hl:=hl.mono hG70
  refine Ai hs hle hG70 (lSr _)<|Xa 13 rfl (Au hs underlying22 cK rfl dC rfl rfl (hl70) (one2) oM oM fun v2 _ hs =>Xa 14 rfl (S_y hs rfl (Yq rfl<|Xe (Zk [1,2,6,9,10,11,12,14,15,43,44,45] rfl<|Wu 4 [257] hs rfl<|Zy hs (Ej 5 isAgg35 rfl rfl (Gu hcl)<|Wp 1 [] hs rfl<|Zy hs (Ca hN s underlying35 sizeOf79 rfl rfl rfl oM fun p75 c75 hp75 hc75 hR75=>?_))))))
  rw [← herr] at hR75
  obtain ⟨u75,rfl,hr2⟩:=hR75
  obtain ⟨A75,c75,rfl,_⟩:=id hr2
  refine Zy hs (Yg rfl (hp75 0 (.slice A75 rr.length c75) rfl)<|Wp 3 [0] hs rfl ?_)
  have hs:=hs.f5.f5.f5.f5.f5.f5
  have hx0g:two x0=two (bl.getD s 0):=by rw [Bn oM,← hx0]
  refine Kd (Ud (fun m E w=>∃ (j:Nat) (vk:Value) (G2:Ah),j≤rr.length∧De G2 (.slice A75 rr.length c75) rr∧m=rr.length-j∧E=⟨[],[(1,(.slice Al l.length cl)),(2,Vp b2),(6,Vs b6 t.next.length t.next.length),(9,Vi (c:Int)),(10,.map (some b39)),(11,Vs b42 t.next.length t.next.length),(12,v12),(14,Vi (s:Int)),(15,vk),(43,(.slice Al l.length cl)),(44,Vi ((l.length:Nat):Int)),(45,Vi (k:Int)),(76,.slice A75 rr.length c75),(77,Vi ((rr.length:Nat):Int)),(78,Vi (j:Int))]⟩∧St ⟨w0,G,Bj []⟩ G2 [.row 5 1 vk (two (bl.getD s 0)++(rr.take j).flatMap fun x=>two (bl.getD x 0)).length ((two (bl.getD s 0)++(rr.take j).flatMap fun x=>two (bl.getD x 0)).map Dy),.obj b39 (.map (En Ji ks).toArray ks.length),.row 3 1 (Vs b42 t.next.length t.next.length) t.next.length (nx.map Bl),.row 3 1 (v12) rp.length (rp.map Bl),.row 3 1 (Vs b6 t.next.length t.next.length) t.next.length (bl.map Bl),.blk b2 160 (Co t.cell t.cells (.slice An t.next.length cn) (.slice Aa t.acc.length ca))] w) (L:=[(1,_),(2,_),(6,_),(9,_),(10,_),(11,_),(12,_),(14,_),(15,_),(43,_),(44,_),(45,_),(76,_),(77,_),(78,_)]) ⟨rfl,rfl,rfl,rfl,rfl,rfl,rfl,rfl,rfl,rfl,rfl,rfl,rfl,rfl,rfl,trivial⟩ (⟨0,_,_,by omega,hr2,rfl,rfl,by rw [AcS,List.flatMap_nil,AaX,← hx0g];exact hs⟩) fun m E w hI=>?_)
  obtain ⟨j,vk,G2,hj,hr2,rfl,rfl,hs⟩:=hI
  have hN:=hN0.mono hs.le
  have hA:=hA0.mono hs.le
  have hl:=hl0.mono hs.le
  refine Wt 2 [] hs rfl<|Zy hs (Yc rfl (fun h79=>?_) fun h79=>?_)
  ·
   refine Wp 8 [0] hs rfl<|Zy hs (Ct hr2 j underlying79 sizeOf3 rfl rfl rfl oM fun p80 hp80=>?_)
   obtain ⟨x,hxe⟩:∃ x,x=rr[j]'oM:=⟨_,rfl⟩
   rw [← hxe] at hp80
   have hxN:x<t.next.length:=hlrr.2 x Z47
   refine Zy hs (Yg rfl (hp80)<|Wp 2 [0] hs rfl ?_)
   obtain ⟨x1,hx1⟩:∃ y,y=bl[x]'oM:=⟨_,rfl⟩
   have hkyl:(two (bl.getD s 0)++(rr.take j).flatMap fun x=>two (bl.getD x 0)).length=2+2*j:=by rw [AaB,Xi,rJ,Aag];omega
   refine Bg [0,1,2,3,4,5,6,7,8,9,10,11,12] hs kR ?_
   replace hs:=hs.drew
   refine Xr [0,1,2] [] hs rfl<|Xt 3 hs rfl (Be (x) underlying79 sizeOf3 rfl rfl rfl oM<|Xt 4 hs rfl (Cm 4 rfl isAgg3 rfl (show (bl.map Bl)[x]?=some (Bl x1) from by rw [hx1];exact Jd oM)<|Xt 5 hs rfl (Dj underlying3 underlying5 (c:=((UInt8.ofNat x1).toNat:Int)) rfl (Dx _)<|Xr [6,7] [] hs rfl<|Xt 8 hs rfl (Be (x) underlying79 sizeOf3 rfl rfl rfl oM<|Xt 9 hs rfl (Cm 4 rfl isAgg3 rfl (show (bl.map Bl)[x]?=some (Bl x1) from by rw [hx1];exact Jd oM)<|Xt 10 hs rfl (Mh (c:=((x1 / 256:Nat):Int)) rfl rfl dC (eC _)<|Xt 11 hs rfl (Dj underlying3 underlying5 (c:=((UInt8.ofNat (x1 / 256)).toNat:Int)) rfl (Dx _) ?_)))))))
   have hle:=hs.le
   refine Xo 12 rfl (Se hs zeroValue5 rfl fun v3 _ hs _=>?_)
   obtain ⟨_,hG94,hl94,hs⟩:=hs.fixRow noM
   replace hr2:=hr2.mono hG94
   refine Ai hs hle hG94 (lSr _)<|Xa 13 rfl (Au hs underlying22 cK rfl dC rfl rfl (hl94) (one2) (by rw [hkyl];omega) (by rw [hkyl];omega) fun v4 _ hs =>Xa 14 rfl (S_y hs rfl (Yq rfl<|Xe (Zk [1,2,6,9,10,11,12,14,15,43,44,45,76,77,78] rfl ?_))))
   refine Zr<|Zy hs (Ya (s:=((j+1:Nat):Int)) rfl<|Wp 1 [] hs rfl ?_)
   have hs:=hs.f5.f5.f5.f5.f5.f5
   have hx1g:two x1=two (bl.getD rr[j] 0):=by rw [← hxe,Bn oM,← hx1]
   refine Cr ⟨_,?_,[(1,_),(2,_),(6,_),(9,_),(10,_),(11,_),(12,_),(14,_),(15,_),(43,_),(44,_),(45,_),(76,_),(77,_),(78,_)],⟨rfl,rfl,rfl,rfl,rfl,rfl,rfl,rfl,rfl,rfl,rfl,rfl,rfl,rfl,rfl,trivial⟩,⟨j+1,_,_,by omega,hr2,rfl,rfl,by rw [kB oM,← hx1g,← AaI,AaU,AaB];exact hs⟩⟩
   omega
  refine Wp 4 [0] hs rfl ?_
  obtain rfl:j=rr.length:=by omega
  rw [Aaj] at hs
  obtain ⟨_,hG_hky,hky,hs⟩:=hs.fixRow noM
  have hke:(two (bl.getD s 0)++rr.flatMap fun x=>two (bl.getD x 0))=Hr t bl s:=by unfold Hr;rw [Bn (by omega:s<t.next.length),← herr]
  rw [hke] at hky
  replace hky:Bd _ _ _:=hky
  refine Wu 4 [] hs rfl<|Zy hs (Kq (bs:=Hr t bl s) underlying22 underlying5 underlying9 rfl hky<|Zy hs (Fp (a:=(Hr t bl s)) 0 rfl underlying114 aW zeroValue3 hnd rfl rfl (fun hno=>?_) (fun hyes=>?_)))
  ·
   refine Wp 16 [14,1,2,6,9,10,11,12,14,15,18,19,43,44,45,0] hs rfl<|Zy hs (Dl 2 rfl underlying79 rfl hs<|Wp 6 [0] hs rfl<|Zy hs (Kq (bs:=Hr t bl s) underlying22 underlying5 underlying9 rfl hky<|Wp 1 [] hs rfl<|O_n (Ks hs underlying114 aW hnd hno rfl rfl (by rw [hkl];rfl) fun _ hs =>Wp 4 [0] hs rfl<|O_s (Se hs zeroValue3 rfl fun v5 _ hs _=>?_))))
   obtain ⟨_,hG114,hl114,hs⟩:=hs.fixRow noM
   refine O_s (Au hs.f2 underlying79 Qx rfl dC rfl rfl (hl114) (Cp rfl) oM oM fun v6 _ hs =>Wp 6 [12,1,2,6,9,10,11,12,14,18,43,44,45] hs rfl<|Zy hs (Be (s) underlying79 sizeOf3 rfl rfl rfl oM<|O_n (Bz hs.f2 sizeOf3 rfl rfl rfl oM fun _ hs =>Wp 2 [0] hs rfl<|Zy hs (Ya (s:=((k+1:Nat):Int)) rfl<|Wp 1 [] hs rfl ?_))))
   have hs:=hs.f4.f4.f3.f3.f4
   have hst:=fX (t:=t) (bl:=bl) (nx:=nx) (rp:=rp) hno
   refine Cr ⟨_,?_,[(1,_),(2,_),(6,_),(9,_),(10,_),(11,_),(12,_),(43,_),(44,_),(45,_)],⟨rfl,rfl,rfl,rfl,rfl,rfl,rfl,rfl,rfl,rfl,trivial⟩,⟨k+1,ks++[Hr t bl s],nx.set s rp.length,rp++[s],_,_,by omega,by rw [Fb _ _ _ _ oM,← hse,← hfo,hst],Ix hnd hno,by simp [hkl],by rw [AaP];exact hnl,by simp;omega,rfl,rfl,by rw [Aad,AaU,show (rp++[s]).length=rp.length+1 by simp];exact hs.wk [_,_,_,_,_]⟩⟩
   omega
  refine Wp 18 [14,1,2,6,9,10,11,12,14,15,18,19,43,44,45,0] hs rfl<|Zy hs (Be (s) underlying79 sizeOf3 rfl rfl rfl oM<|O_n (Bz hs.f1 sizeOf3 rfl rfl rfl oM fun _ hs =>Wp 2 [0] hs rfl<|Zy hs (Ya (s:=((k+1:Nat):Int)) rfl<|Wp 1 [] hs rfl ?_)))
  have hs:=hs.f4.f4.f4.f3.f4
  have hst:=fW (t:=t) (bl:=bl) (nx:=nx) (rp:=rp) hyes
  refine Cr ⟨_,?_,[(1,_),(2,_),(6,_),(9,_),(10,_),(11,_),(12,_),(43,_),(44,_),(45,_)],⟨rfl,rfl,rfl,rfl,rfl,rfl,rfl,rfl,rfl,rfl,trivial⟩,⟨k+1,ks,nx.set s (Bc (Hr t bl s) ks),rp,_,_,by omega,by rw [Fb _ _ _ _ oM,← hse,← hfo,hst],hnd,hkl,by rw [AaP];exact hnl,by omega,rfl,rfl,by rw [Aad];exact hs.wk [_,_,_,_,_]⟩⟩
  omega
 refine Wp 4 [0] hs rfl ?_
 obtain rfl:k=l.length:=by omega
 rw [Aaj] at hfo
 refine Wu 4 [] hs rfl<|Zy hs (Dl 2 rfl underlying79 rfl hs<|Wp 1 [] hs rfl<|Zy hs (Yc rfl (fun h124=>?_) fun h124=>?_))
 ·
  refine Wp 9 [0,0] hs rfl<|As ?_
  have hfe:=rH hfo oM hrg
  rw [Prod.mk.injEq] at hfe
  obtain ⟨rfl,rfl⟩:=hfe
  have hs:=hs.f2
  obtain ⟨_,hG_hf12,hf12,hs⟩:=hs.fixRow noM
  have hs:=hs.f1
  obtain ⟨_,hG_hf42,hf42,hs⟩:=hs.fixRow noM
  refine By (vs:=[_,_]) results142 rfl ⟨rfl,rfl,trivial⟩ ?_
  try dsimp only [tup]
  replace hf12:=hf12.mono hG_hf42
  exact hs.q ⟨_,_,rfl,(show De _ _ _ from by unfold De;rw [hnl];exact hf42),hf12⟩
 refine Wp 6 [0] hs rfl<|Zy hs (Dl 2 rfl underlying79 rfl hs<|Wp 2 [] hs rfl ?_)
 have hs:=hs.f4.f2
 have hgo:=yU hfo oM hrg
 refine Cr ⟨_,?_,[(1,_),(2,_),(6,_),(9,_)],⟨rfl,rfl,rfl,rfl,trivial⟩,⟨f1,rp.length,b42,nx,_,hgo,by omega,by omega,rfl,rfl,by exact hs.wk [_,_]⟩⟩
 omega
abbrev Lj (z:Int):Value:=Vi z
def Dq (l:List (List Nat)):List Value:=(l.map fun c=>c.map Bb).flatten
def Nn (l:List (List Nat)):Prop:=∀ c∈l,c.length=4∧∀ w∈c,w<W64
theorem kC {l:List (List Nat)} (h:Nn l):∀ c∈l.map fun c=>c.map Bb,c.length=4:=by
  intro c hc
  obtain ⟨d,hd,rfl⟩:=Aaf.1 hc
  rw [AaC];exact (h d hd).1
theorem Qz (l:List (List Nat)) (c:List Nat):Dq (l++[c])=Dq l++c.map Bb:=by unfold Dq;simp
theorem Hz {l:List (List Nat)} (h:Nn l) {i:Nat} (hi:i<l.length):((Dq l).drop (i*4)).take 4=l[i].map Bb :=
  Qq _ i _ (kC h) (by rw [Aak,AaA hi];rfl)
theorem Iy:∀ {l:List (List Nat)} (_:Nn l) {i:Nat} (_:i<l.length) (c:List Nat),Dq (l.set i c)=(Dq l).take (i*4)++c.map Bb++(Dq l).drop (i*4+4)
  | d::l,h,0,_,c=>by
    have hd:=(h d sM).1
    simp only [Dq,AcH,Aar,AbW,Nat.zero_mul,AcS,AbA,Abr]
    rw [List.drop_append,AbU iA,AbA,AaC,hd];rfl
  | d::l,h,i+1,hi,c=>by
    have hd:=(h d sM).1
    have ih:=Iy (l:=l) (fun x hx=>h x pB) (i:=i) (by simpa using hi) c
    have e:∀ l:List (List Nat),Dq (d::l)=d.map Bb++Dq l:=fun l=>rfl
    have e1:(d.map Bb).take ((i+1)*4)=d.map Bb:=Aab iA
    have e2:(d.map Bb).drop ((i+1)*4+4)=[]:=AbU iA
    rw [List.set_cons_succ,e,e,ih,List.take_append,List.drop_append,e1,e2,AbA,AaC,hd,show (i+1)*4-4=i*4 by omega,show (i+1)*4+4-4=i*4+4 by omega]
    simp only [AaI]
theorem Nn.set {l:List (List Nat)} (h:Nn l) {i:Nat} {c:List Nat} (hc:c.length=4∧∀ w∈c,w<W64):Nn (l.set i c):=by
  intro d hd
  rcases AbB hd with hd | rfl
  · exact h d hd
  · exact hc
theorem Oy {a b:List Nat} (ha:a.length=4) (hb:b.length=4):(Df a b).length=4∧∀ w∈Df a b,w<W64:=by
  refine ⟨Kx ha hb,fun w hw=>?_⟩
  unfold Df at hw
  obtain ⟨i,hi,rfl⟩:=AaQ.1 hw
  rw [List.getElem_zipWith];exact Pn _ _
structure Ws (t:Tb) (k:Nat) (st:Mg):Prop where
  nd:st.keys.Nodup
  kl:st.keys.length=st.cells.length
  cl:st.cls.length=st.cells.length
  ol:st.of.length=t.cells
  le:st.cells.length≤k
  lt:∀ z∈st.of,-1≤z∧z<(st.cells.length:Int)
  c4:Nn st.cls
theorem rK {t:Tb} {b r:List Nat} {st:Mg} {c:Nat} (h:Bc (Wd t b r c) st.keys<st.keys.length):nD t b r st c={ st with of:=st.of.set c ((Bc (Wd t b r c) st.keys:Nat):Int) }:=by
  unfold nD;simp only [if_pos h]
theorem rL {t:Tb} {b r:List Nat} {st:Mg} {c:Nat} (h:¬ Bc (Wd t b r c) st.keys<st.keys.length):nD t b r st c=⟨st.keys++[Wd t b r c],st.cells++[c],st.cls++[[0,0,0,0]],st.of.set c (st.cells.length:Int)⟩:=by
  unfold nD;simp only [if_neg h]
theorem Vb {t:Tb} {k:Nat} {b r:List Nat} {st:Mg} {c:Nat} (h:Ws t k st) (hc:c<t.cells):Ws t (k+1) (nD t b r st c)∧0≤(nD t b r st c).of.getD c 0:=by
  by_cases hp:Bc (Wd t b r c) st.keys<st.keys.length
  · rw [rK hp]
    refine ⟨⟨h.nd,h.kl,h.cl,by simp [h.ol],by have:=h.le;dsimp only;omega,fun z hz=>?_,h.c4⟩,?_⟩
    · rcases AbB hz with hz | rfl
      · exact h.lt z hz
      · have:=h.kl;dsimp only;omega
    · dsimp only;rw [Bn (by rw [AaP,h.ol];exact hc),Aby];omega
  · rw [rL hp]
    refine ⟨⟨Ix h.nd hp,by simp [h.kl],by simp [h.cl],by simp [h.ol],by have:=h.le;simp;omega,fun z hz=>?_,fun d hd=>?_⟩,?_⟩
    · rcases AbB hz with hz | rfl
      · have:=h.lt z hz;simp;omega
      · simp;omega
    · rcases AaS.1 hd with hd | hd
      · exact h.c4 d hd
      · rw [AaE.1 hd];exact ⟨rfl,by decide⟩
    · dsimp only;rw [Bn (by rw [AaP,h.ol];exact hc),Aby];omega
def mH (st:Mg) (c x:Nat):Mg:={ st with cls:=st.cls.set (st.of.getD c 0).toNat (Df (st.cls.getD (st.of.getD c 0).toNat []) (Xb [UInt8.ofNat x])) }
theorem fY (t:Tb) (b r:List Nat) (st:Mg) (x:Nat):mE t b r st x=mH (if st.of.getD (t.cell.getD x 0) 0<0 then nD t b r st (t.cell.getD x 0) else st) (t.cell.getD x 0) x:=rfl
theorem Ws.up {t:Tb} {k:Nat} {st:Mg} (h:Ws t k st):Ws t (k+1) st:=⟨h.nd,h.kl,h.cl,h.ol,by have:=h.le;omega,h.lt,h.c4⟩
theorem aX {t:Tb} {k:Nat} {st:Mg} {c x:Nat} (h:Ws t k st) (hc:c<t.cells) (h0:0≤st.of.getD c 0):Ws t k (mH st c x):=by
  have hlt:=h.lt (st.of.getD c 0) (by rw [Bn Z59];exact AaD _)
  refine ⟨h.nd,h.kl,by unfold mH;simp [h.cl],h.ol,h.le,h.lt,?_⟩
  refine Nn.set h.c4 (Oy ?_ (Hq _))
  rw [Bn (by have:=h.cl;omega)]
  exact (h.c4 _ (AaD _)).1
theorem mgP_ok {t:Tb} {k:Nat} {b r:List Nat} {st:Mg} {x:Nat} (h:Ws t k st) (hc:t.cell.getD x 0<t.cells):Ws t (k+1) (mE t b r st x):=by
  rw [fY]
  by_cases h0:st.of.getD (t.cell.getD x 0) 0<0
  · rw [if_pos h0];exact aX (Vb h hc).1 hc (Vb h hc).2
  · rw [if_neg h0];exact (aX h hc oM).up
theorem nM {t:Tb} {b r:List Nat} (hcl:t.cell.length=256) (hc:∀ c∈t.cell,c<t.cells):∀ k,k≤256→Ws t k ((List.range k).foldl (mE t b r) ⟨[],[],[],List.replicate t.cells (-1)⟩)
  | 0,_=>⟨Aaz,rfl,rfl,by simp,by simp,fun z hz=>by rw [Aba hz];simp,fun c hc=>by cases hc⟩
  | k+1,hk=>by
    rw [AbC,Aap]
    refine mgP_ok (nM hcl hc k oM) ?_
    rw [Bn oM];exact hc _ (AaD _)
theorem fZ {t:Tb} {b r:List Nat} (k:Nat):(List.range (k+1)).foldl (mE t b r) ⟨[],[],[],List.replicate t.cells (-1)⟩=mE t b r ((List.range k).foldl (mE t b r) ⟨[],[],[],List.replicate t.cells (-1)⟩) k:=by
  rw [AbC,Aap];rfl
theorem yV {t:Tb} {b r:List Nat} {c j:Nat} (h:j<r.length):Wd t b (r.take (j+1)) c=Wd t b (r.take j) c++two (b.getD (t.to r[j] c) 0):=by
  unfold Wd;rw [Aay,AaA h,Abl];simp
theorem rM {t:Tb} {b r:List Nat} {c:Nat}:(Wd t b r c).length=2*r.length:=by
  unfold Wd
  induction r with
  | nil=>rfl
  | cons x r ih=>rw [Aan,AaB,ih,Xi,AaZ];omega
theorem Qj {t:Tb} {s c:Nat} (hs:s<t.next.length) (hc:c<(t.next[s]'hs).length):t.to s c=(t.next[s]'hs)[c]:=by unfold Tb.to;rw [Bn hs,Bn hc]
theorem Je {l:List Int} {i:Nat} (h:i<l.length):(l.map Lj)[i]?=some (Lj (l[i]'h)):=by rw [Aak,AaA h];rfl
theorem eD {n k:Nat} (h:k<n):(List.replicate k (-1:Int)++List.replicate (n-k) 0).set k (-1)=List.replicate (k+1) (-1)++List.replicate (n-(k+1)) 0:=by
  rw [AbM _ _ sM,AaJ,Aaw,show n-k=(n-(k+1))+1 by omega,AbY,AcH,List.replicate_succ',AaI];rfl
theorem Bh {c:Ctx} {H H':List Res} {w:World} (hs:St c G H w) (h:H=H'):St c G H' w:=h▸hs
def ClR (_:Ah) (c:List Value) (w:List Nat):Prop:=c=w.map Bb∧w.length=4∧∀ x∈w,x<W64
def Hl (G:Ah) (v:Value) (l:List (List Nat)):Prop:=Bi 4 ClR G v l
theorem Hl.mono {G G':Ah} (h:G.le G') {v:Value} {l:List (List Nat)} (hl:Hl G v l):Hl G' v l:=Bi.mono (R:=ClR) (G:=G) (G':=G') (fun _ _ h=>h) h hl
theorem Px {v:Value} {l:List (List Nat)} (h:Sl G v 4 l.length (Dq l)) (h4:Nn l):Hl G v l:=by
  refine Bi.ofSl h rfl rfl ?_ (kC h4)
  have key:∀ l:List (List Nat),Nn l→Cw (ClR G) (l.map fun c=>c.map Bb) l:=by
    intro l
    induction l with
    | nil=>intro _;trivial
    | cons c l ih=>intro h;exact ⟨⟨rfl,(h c sM).1,(h c sM).2⟩,ih fun d hd=>h d (by simp [hd])⟩
  exact key l h4
theorem yW:∀ y∈[Value.int .u64 0,.int .u64 0,.int .u64 0,.int .u64 0],y.oneCell'=true:=by
  intro y hy
  simp only [AaV,AbI,or_false] at hy
  rcases hy with rfl | rfl | rfl | rfl<;>rfl
theorem yX {v vb vr:Value} {t:Tb} {B R:List Nat} (ht:iC G v t) (hok:t.ok) (hB:De G vb B) (hR:De G vr R) (hBl:B.length=t.next.length) (hRl:R.length≤5000) (hRN:∀ x∈R,x<t.next.length) :
  Ba prog 144 [v,vb,vr] G [] fun r G' H'=>H'=[]∧∃ vc vk,r=.tuple #[vc,vk]∧De G' vc (Ky t B R).cells∧Hl G' vk (Ky t B R).cls:=by
 obtain ⟨un,ua,rfl,hcl,hN,hA⟩:=ht
 obtain ⟨An,cn,rfl⟩:=Bi.slice hN
 obtain ⟨Aa,ca,rfl,_⟩:=id hA
 obtain ⟨Ab,cb,rfl,_⟩:=id hB
 obtain ⟨Ar,cr,rfl,_⟩:=id hR
 obtain ⟨hn1,hn2,hal,hce5,hrows,hcells⟩:=hok
 refine Ba.of_T [(0,_),(1,_),(2,_)] func144 rfl ntmps144 sM rfl fun w0 hs=>?_
 have hN0:=hN
 have hA0:=hA
 have hB0:=hB
 have hR0:=hR
 refine Wt 2 [] hs rfl<|O_s (Fj hs rfl (cs:=_) rfl fun b3 _ hs =>Wp 5 [0] hs rfl<|O_s (Fm hs fun b21 _ hs =>Wp 13 [0,0,0,256] hs rfl<|Zy hs (Ej 1 isAgg3 rfl rfl (tabC_1 hcl)<|O_s (Dw (n:=t.cells) (m:=t.cells) hs underlying79 Qx rfl rfl rfl oM oM oM fun b24 _ hs =>Wp 9 [0,0] hs rfl ?_))))
 have hs:=hs.f2.f2.f2
 refine Zl [1,2,3,8,9,10,11,26,27] (fun m E w=>∃ (k:Nat) (G2:Ah),k≤t.cells∧m=t.cells-k∧E=⟨[],[(1,(.slice Ab B.length cb)),(2,(.slice Ar R.length cr)),(3,Vp b3),(8,.map (some b21)),(9,Vn),(10,Vn),(11,Vs b24 t.cells t.cells),(26,Vi ((t.cells:Nat):Int)),(27,Vi (k:Int))]⟩∧St ⟨w0,G,Bj []⟩ G2 [.row 3 1 (Vs b24 t.cells t.cells) t.cells ((List.replicate k (-1)++List.replicate (t.cells-k) 0).map Lj),.obj b21 (.map #[] 0),.blk b3 160 (Co t.cell t.cells (.slice An t.next.length cn) (.slice Aa t.acc.length ca))] w) rfl (⟨0,_,by omega,rfl,rfl,by rw [AbH,AbA,Nat.sub_zero,Abk];exact hs⟩) fun m E w hI=>?_
 obtain ⟨k,G2,hk,rfl,rfl,hs⟩:=hI
 have hN:=hN0.mono hs.le
 have hA:=hA0.mono hs.le
 have hB:=hB0.mono hs.le
 have hR:=hR0.mono hs.le
 refine Wt 2 [] hs rfl<|Zy hs (Yc rfl (fun h28=>?_) fun h28=>?_)
 ·
  refine Wp 14 [0,0] hs rfl<|Zy hs (Be (k) underlying79 sizeOf3 rfl rfl rfl oM<|O_n (Bz hs sizeOf3 rfl rfl rfl oM fun _ hs =>Wp 2 [0] hs rfl<|Zy hs (Ya (s:=((k+1:Nat):Int)) rfl<|Wp 1 [] hs rfl<|Zx [1,2,3,8,9,10,11,26,27] rfl ⟨k+1,_,by omega,rfl,rfl,by rw [← eD oM,Aad];exact hs⟩)))
 refine Wp 4 [0] hs rfl<|Wu 5 [0] hs rfl ?_
 obtain rfl:k=t.cells:=by omega
 rw [Aaw,AbH,AaX] at hs
 have hs:=hs.nilRow 86 4
 have hs:=hs.nilRow 3 1
 have hs:=hs.f4.f3.f3.f3.f4
 have hm0:=nM (b:=B) (r:=R) hcl hcells
 refine Zl [1,2,3,8,9,10,11,34] (fun m E w=>∃ (k:Nat) (sm:Mg) (v9 v10:Value) (G2:Ah),k≤256∧sm=(List.range k).foldl (mE t B R) ⟨[],[],[],List.replicate t.cells (-1)⟩∧Ws t k sm∧m=256-k∧E=⟨[],[(1,(.slice Ab B.length cb)),(2,(.slice Ar R.length cr)),(3,Vp b3),(8,.map (some b21)),(9,v9),(10,v10),(11,Vs b24 t.cells t.cells),(34,Vi (k:Int))]⟩∧St ⟨w0,G,Bj []⟩ G2 [.obj b21 (.map (En Ji sm.keys).toArray sm.keys.length),.row 3 1 (v9) sm.cells.length (sm.cells.map Bl),.row 86 4 (v10) sm.cls.length (Dq sm.cls),.row 3 1 (Vs b24 t.cells t.cells) t.cells (sm.of.map Lj),.blk b3 160 (Co t.cell t.cells (.slice An t.next.length cn) (.slice Aa t.acc.length ca))] w) rfl (⟨0,_,_,_,_,by omega,rfl,hm0 0 oM,rfl,rfl,hs⟩) fun m E w hI=>?_
 obtain ⟨k,sm,v9,v10,G2,hk,hsm,hmo,rfl,rfl,hs⟩:=hI
 have hN:=hN0.mono hs.le
 have hA:=hA0.mono hs.le
 have hB:=hB0.mono hs.le
 have hR:=hR0.mono hs.le
 refine Wt 2 [] hs rfl<|Zy hs (Yc rfl (fun h35=>?_) fun h35=>?_)
 ·
  refine Wp 15 [0,0,0] hs rfl<|Zy hs (Bp k underlying80 sizeOf3 rfl rfl rfl oM ?_)
  obtain ⟨c,hce⟩:∃ c,c=t.cell.getD k 0:=⟨_,rfl⟩
  have hcc:c<t.cells:=by rw [hce,Bn oM];exact hcells _ (AaD _)
  refine Zy hs (Ej 4 isAgg3 rfl rfl (show (Co t.cell t.cells (.slice An t.next.length cn) (.slice Aa t.acc.length ca))[k]?=some (Bl c) from by rw [hce];exact Qy hcl oM)<|Wp 7 [0] hs rfl<|Zy hs (Be (c) underlying79 sizeOf3 rfl rfl rfl oM ?_))
  obtain ⟨z,hz⟩:∃ z,z=sm.of[c]'(by rw [hmo.ol];exact hcc):=⟨_,rfl⟩
  refine Zy hs (Cm 3 rfl isAgg3 rfl (show (sm.of.map Lj)[c]?=some (Lj z) from by rw [hz];exact Je (by rw [hmo.ol];exact hcc))<|Zy hs (Yc rfl (fun h45=>?_) fun h45=>?_))
  ·
   have hz0:sm.of.getD c 0<0:=by rw [Bn (by rw [hmo.ol];exact hcc),← hz];exact h45
   refine Wp 6 [0] hs rfl<|Zy hs (iG (c:=((2*R.length:Nat):Int)) rfl rfl oM oM<|O_s (Dw (n:=0) (m:=(2*R.length)) hs underlying22 cK rfl rfl rfl oM oM oM fun b49 _ hs =>Wp 9 [11,1,2,3,8,9,10,11,13,14,15,34,0] hs rfl ?_))
   have hs:=hs.f5.f5.f5.f5.f5.f5
   refine Zl [1,2,3,8,9,10,11,13,14,15,34,50,51,52] (fun m E w=>∃ (j:Nat) (vk:Value) (G2:Ah),j≤R.length∧m=R.length-j∧E=⟨[],[(1,(.slice Ab B.length cb)),(2,(.slice Ar R.length cr)),(3,Vp b3),(8,.map (some b21)),(9,v9),(10,v10),(11,Vs b24 t.cells t.cells),(13,Vi (k:Int)),(14,Vi (c:Int)),(15,vk),(34,Vi (k:Int)),(50,(.slice Ar R.length cr)),(51,Vi ((R.length:Nat):Int)),(52,Vi (j:Int))]⟩∧St ⟨w0,G,Bj []⟩ G2 (.row 5 1 vk (Wd t B (R.take j) c).length ((Wd t B (R.take j) c).map Dy)::[.obj b21 (.map (En Ji sm.keys).toArray sm.keys.length),.row 3 1 (v9) sm.cells.length (sm.cells.map Bl),.row 86 4 (v10) sm.cls.length (Dq sm.cls),.row 3 1 (Vs b24 t.cells t.cells) t.cells (sm.of.map Lj),.blk b3 160 (Co t.cell t.cells (.slice An t.next.length cn) (.slice Aa t.acc.length ca))]) w) rfl (⟨0,_,_,by omega,rfl,rfl,hs⟩) fun m E w hI=>?_
   obtain ⟨j,vk,G2,hj,rfl,rfl,hs⟩:=hI
   have hN:=hN0.mono hs.le
   have hA:=hA0.mono hs.le
   have hB:=hB0.mono hs.le
   have hR:=hR0.mono hs.le
   refine Wt 2 [] hs rfl<|Zy hs (Yc rfl (fun h53=>?_) fun h53=>?_)
   ·
    refine Wp 8 [0] hs rfl<|Zy hs (Ct hR j underlying79 sizeOf3 rfl rfl rfl oM fun p54 hp54=>?_)
    obtain ⟨s,hse⟩:∃ s,s=R[j]'oM:=⟨_,rfl⟩
    rw [← hse] at hp54
    have hsN:s<t.next.length:=hRN s Z46
    refine Zy hs (Yg rfl (hp54)<|Wp 6 [0,257] hs rfl<|Zy hs (Ej 5 isAgg35 rfl rfl (Gu hcl)<|Wp 1 [] hs rfl<|Zy hs (Ca hN s underlying35 sizeOf79 rfl rfl rfl oM fun p60 c60 hp60 hc60 hR60=>?_)))
    obtain ⟨rr,herr⟩:∃ r,r=t.next[s]'oM:=⟨_,rfl⟩
    rw [← herr] at hR60
    have hlrr:rr.length=t.cells∧∀ x∈rr,x<t.next.length:=hrows rr vW
    obtain ⟨u60,rfl,hrr⟩:=hR60
    obtain ⟨A60,c60,rfl,_⟩:=id hrr
    refine Zy hs (Yg rfl (hp60 0 (.slice A60 rr.length c60) rfl)<|Wp 1 [] hs rfl<|Zy hs (Ct hrr c underlying79 sizeOf3 rfl rfl rfl oM fun p63 hp63=>?_))
    obtain ⟨y,hye⟩:∃ y,y=rr[c]'oM:=⟨_,rfl⟩
    rw [← hye] at hp63
    have hyN:y<t.next.length:=hlrr.2 y Z48
    refine Zy hs (Yg rfl (hp63)<|Zy hs (Ct hB y underlying79 sizeOf3 rfl rfl rfl oM fun p65 hp65=>?_))
    obtain ⟨x,hxe⟩:∃ x,x=B[y]'oM:=⟨_,rfl⟩
    rw [← hxe] at hp65
    refine Zy hs (Yg rfl (hp65)<|Wp 5 [15,1,2,3,8,9,10,11,13,14,15,18,34,50,51,52] hs rfl<|Zy hs (Dj underlying3 underlying5 (c:=((UInt8.ofNat x).toNat:Int)) rfl (Dx _)<|Wp 1 [] hs rfl<|Zy hs (Mh (c:=((x / 256:Nat):Int)) rfl rfl dC (eC _)<|Zy hs (Dj underlying3 underlying5 (c:=((UInt8.ofNat (x / 256)).toNat:Int)) rfl (Dx _)<|O_s (Bw hs underlying22 sizeOf5 zeroValue5 rfl rfl dC dC rfl (cs:=[_,_]) rfl rfl fun v1 _ hs _=>?_)))))
    obtain ⟨_,hG73,hl73,hs⟩:=hs.fixRow noM
    refine O_s (Au hs underlying22 cK rfl dC rfl rfl (hl73) (one2) (by rw [rM,Aag];omega) (by rw [rM,Aag];omega) fun v2 _ hs =>Wp 3 [0] hs rfl<|Zy hs (Ya (s:=((j+1:Nat):Int)) rfl<|Wp 1 [] hs rfl ?_))
    have hs:=hs.f5.f5.f5.f5.f5.f5
    have hx1g:two x=two (B.getD (t.to R[j] c) 0):=by rw [← hse,Qj hsN Z61];simp only [← herr,← hye];rw [Bn oM,← hxe]
    refine Zx [1,2,3,8,9,10,11,13,14,15,34,50,51,52] rfl ⟨j+1,_,_,by omega,rfl,rfl,by rw [yV oM,← hx1g,AaU,AaB];exact hs⟩
   refine Wp 4 [0] hs rfl ?_
   obtain rfl:j=R.length:=by omega
   rw [Aaj] at hs
   obtain ⟨_,hG_hky,hky,hs⟩:=hs.fixRow noM
   replace hky:Bd _ _ _:=hky
   have hnd:=hmo.nd
   refine Wu 4 [] hs rfl<|Zy hs (Kq (bs:=(Wd t B R c)) underlying22 underlying5 underlying9 rfl hky ?_)
   replace hR:=hR.mono hG_hky
   refine Zy hs (Fp (a:=(Wd t B R c)) 0 rfl underlying114 aW zeroValue3 hnd rfl rfl (fun hno=>?_) (fun hyes=>?_))
   ·
    refine Wp 16 [0,13,1,2,3,8,9,10,11,13,14,15,19,34,84] hs rfl<|Zy hs (Dl 1 rfl underlying79 rfl hs<|Wp 6 [0] hs rfl<|Zy hs (Kq (bs:=(Wd t B R c)) underlying22 underlying5 underlying9 rfl hky<|Wp 1 [] hs rfl<|O_n (Ks hs underlying114 aW hnd hno rfl rfl (by rw [hmo.kl];rfl) fun _ hs =>Wp 5 [0] hs rfl<|O_s (Bw hs underlying79 sizeOf3 zeroValue3 rfl rfl dC dC rfl (cs:=[_]) rfl rfl fun v3 _ hs _=>?_))))
    obtain ⟨_,hG93,hl93,hs⟩:=hs.fixRow noM
    refine O_s (Au hs.f1 underlying79 Qx rfl dC rfl rfl (hl93) (Cp rfl) (by have:=hmo.le;omega) (by have:=hmo.le;omega) fun v4 _ hs =>Wp 4 [11,1,2,3,8,9,10,11,13,14,19,34] hs rfl<|Zy hs (Dr underlying86 sizeOf84 zeroValue86 rfl rfl (cs:=[_,_,_,_]) rfl<|O_s (Bw hs underlying28 sizeOf86 zeroValue86 rfl rfl dC dC rfl (cs:=[_,_,_,_]) rfl rfl fun v5 _ hs _=>?_)))
    obtain ⟨_,hG97,hl97,hs⟩:=hs.fixRow noM
    refine O_s (Au hs.f2 underlying28 jY rfl dC rfl rfl (hl97) (yW) (by have:=hmo.le;have:=hmo.cl;omega) (by have:=hmo.le;have:=hmo.cl;omega) fun v6 _ hs =>Wp 6 [0] hs rfl<|Zy hs (Be (c) underlying79 sizeOf3 rfl rfl rfl oM<|O_n (Bz hs.f3 sizeOf3 rfl rfl rfl oM fun _ hs =>Wp 1 [0] hs rfl ?_)))
    have hs:=hs.f4.f1.f2.f3.f4
    replace hs:=hs.wk [_,_,_,_,_]
    obtain ⟨s2,hs2e⟩:∃ s,s=nD t B R sm c:=⟨_,rfl⟩
    have hs2ok:=(Vb (b:=B) (r:=R) hmo hcc).1
    have hz2:=(Vb (b:=B) (r:=R) hmo hcc).2
    have hs2f:s2=if sm.of.getD c 0<0 then nD t B R sm c else sm:=by rw [if_pos hz0];exact hs2e
    rw [← hs2e] at hs2ok hz2
    replace hs:=Bh (H':=[.obj b21 (.map (En Ji s2.keys).toArray s2.keys.length),.row 3 1 (v4) s2.cells.length (s2.cells.map Bl),.row 86 4 (v6) s2.cls.length (Dq s2.cls),.row 3 1 (Vs b24 t.cells t.cells) t.cells (s2.of.map Lj),.blk b3 160 (Co t.cell t.cells (.slice An t.next.length cn) (.slice Aa t.acc.length ca))]) hs (by rw [hs2e,rL hno];simp [Qz,Bl,Lj,Bb,Aad])
    have hc2:c<s2.of.length:=by rw [hs2ok.ol];exact hcc
    obtain ⟨ix,hix⟩:=Abp hz2
    rw [Bn hc2] at hix
    have hixl:ix<s2.cls.length:=by have h:=(hs2ok.lt s2.of[c] (AaD _)).2;rw [hs2ok.cl];omega
    obtain ⟨b10,cap10,hb10,_⟩:=hs.rowForm 2 rfl oM
    subst hb10
    refine Bg [0,1,2,3,4,5,6,7,8,9,10,11,12,13,14,15,16,17] hs kR ?_
    replace hs:=hs.drew
    refine Xr [0,1,2] [] hs rfl<|Xt 3 hs rfl (Be (c) underlying79 sizeOf3 rfl rfl rfl oM<|Xt 4 hs rfl (Cm 3 rfl isAgg3 rfl ((Je hc2).trans (by rw [hix]))<|Xr [5,6,7] [] hs rfl<|Xt 8 hs rfl (Be (c) underlying79 sizeOf3 rfl rfl rfl oM<|Xt 9 hs rfl (Cm 3 rfl isAgg3 rfl ((Je hc2).trans (by rw [hix]))<|Xt 10 hs rfl (Cl ix underlying28 sizeOf86 rfl rfl rfl hixl<|Xt 11 hs rfl (Ge 2 rfl isAgg86 sizeOf86 rfl hixl (Hz hs2ok.c4 hixl) Z24<|Xr [12] [] hs rfl<|Xt 13 hs rfl (Dj underlying3 underlying5 (c:=((UInt8.ofNat k).toNat:Int)) rfl (Dx _) ?_)))))))
    have hle:=hs.le
    refine Xo 14 rfl (Bw hs underlying22 sizeOf5 zeroValue5 rfl rfl dC dC rfl (cs:=[_]) rfl rfl fun v7 _ hs _=>?_)
    obtain ⟨_,hG117,hl117,hs⟩:=hs.fixRow noM
    replace hR:=hR.mono (hG93.trans (hG97.trans hG117))
    refine Ai hs hle hG117 (lSr _) ?_
    have hle:=hs.le
    refine Xo 15 rfl (Sp (eB (l:=[UInt8.ofNat k]) (Bd.ofSl hl117 rfl rfl) Z58) hs rfl fun v8 G' _ hR hG118 hs=>?_)
    obtain rfl:=hR
    replace hR:=hR.mono hG118
    refine Ai hs hle hG118 (lSr _) ?_
    have hle:=hs.le
    refine Xo 16 rfl (Sp (Gf (hs2ok.c4 _ (AaD hixl)).1 (Hq _)) hs rfl fun v9 G' _ hR hG119 hs=>?_)
    obtain rfl:=hR
    refine Ai hs hle hG119 (lSr _)<|Xt 17 hs rfl (Cl ix underlying28 sizeOf86 rfl rfl rfl hixl<|Xn 18 rfl (Gw (vs:=(Df (s2.cls[ix]'hixl) (Xb [UInt8.ofNat k])).map Bb) hs.f2 sizeOf86 rfl rfl Z15 (Dk _) hixl fun _ hs =>Xe (Zk [1,2,3,8,9,10,11,34] rfl ?_)))
    refine Zr<|Zy hs (Ya (s:=((k+1:Nat):Int)) rfl<|Wp 1 [] hs rfl ?_)
    have hs:=hs.f4.f4.f2.f4.f4
    have hst:mE t B R sm k=mH s2 c k:=by rw [fY,← hce,hs2f]
    have hcs:(s2.cls.set ix (Df s2.cls[ix] (Xb [UInt8.ofNat k])))=(mH s2 c k).cls:=by unfold mH;dsimp only;rw [Bn hc2,hix];simp only [AbE];rw [Bn hixl]
    refine Zx [1,2,3,8,9,10,11,34] rfl ⟨k+1,mH s2 c k,v4,_,_,by omega,by rw [fZ,← hsm,hst],aX hs2ok hcc (by rw [Bn hc2,hix];omega),rfl,rfl,Bh hs Z34⟩
   refine Wp 18 [0,13,1,2,3,8,9,10,11,13,14,15,19,34,84] hs rfl<|Zy hs (Be (c) underlying79 sizeOf3 rfl rfl rfl oM<|O_n (Bz hs.f3 sizeOf3 rfl rfl rfl oM fun _ hs =>Wp 1 [0] hs rfl ?_))
   have hs:=hs.f4.f1.f4.f4.f4
   replace hs:=hs.wk [_,_,_,_,_]
   obtain ⟨s2,hs2e⟩:∃ s,s=nD t B R sm c:=⟨_,rfl⟩
   have hs2ok:=(Vb (b:=B) (r:=R) hmo hcc).1
   have hz2:=(Vb (b:=B) (r:=R) hmo hcc).2
   have hs2f:s2=if sm.of.getD c 0<0 then nD t B R sm c else sm:=by rw [if_pos hz0];exact hs2e
   rw [← hs2e] at hs2ok hz2
   replace hs:=Bh (H':=[.obj b21 (.map (En Ji s2.keys).toArray s2.keys.length),.row 3 1 (v9) s2.cells.length (s2.cells.map Bl),.row 86 4 (v10) s2.cls.length (Dq s2.cls),.row 3 1 (Vs b24 t.cells t.cells) t.cells (s2.of.map Lj),.blk b3 160 (Co t.cell t.cells (.slice An t.next.length cn) (.slice Aa t.acc.length ca))]) hs (by rw [hs2e,rK hyes];simp [Qz,Bl,Lj,Bb,Aad])
   have hc2:c<s2.of.length:=by rw [hs2ok.ol];exact hcc
   obtain ⟨ix,hix⟩:=Abp hz2
   rw [Bn hc2] at hix
   have hixl:ix<s2.cls.length:=by have h:=(hs2ok.lt s2.of[c] (AaD _)).2;rw [hs2ok.cl];omega
   obtain ⟨b10,cap10,hb10,_⟩:=hs.rowForm 2 rfl oM
   subst hb10
   refine Bg [0,1,2,3,4,5,6,7,8,9,10,11,12,13,14,15,16,17] hs kR ?_
   replace hs:=hs.drew
   refine Xr [0,1,2] [] hs rfl<|Xt 3 hs rfl (Be (c) underlying79 sizeOf3 rfl rfl rfl oM<|Xt 4 hs rfl (Cm 3 rfl isAgg3 rfl ((Je hc2).trans (by rw [hix]))<|Xr [5,6,7] [] hs rfl<|Xt 8 hs rfl (Be (c) underlying79 sizeOf3 rfl rfl rfl oM<|Xt 9 hs rfl (Cm 3 rfl isAgg3 rfl ((Je hc2).trans (by rw [hix]))<|Xt 10 hs rfl (Cl ix underlying28 sizeOf86 rfl rfl rfl hixl<|Xt 11 hs rfl (Ge 2 rfl isAgg86 sizeOf86 rfl hixl (Hz hs2ok.c4 hixl) Z24<|Xr [12] [] hs rfl<|Xt 13 hs rfl (Dj underlying3 underlying5 (c:=((UInt8.ofNat k).toNat:Int)) rfl (Dx _) ?_)))))))
   have hle:=hs.le
   refine Xo 14 rfl (Bw hs underlying22 sizeOf5 zeroValue5 rfl rfl dC dC rfl (cs:=[_]) rfl rfl fun v10 _ hs _=>?_)
   obtain ⟨_,hG117,hl117,hs⟩:=hs.fixRow noM
   replace hR:=hR.mono hG117
   refine Ai hs hle hG117 (lSr _) ?_
   have hle:=hs.le
   refine Xo 15 rfl (Sp (eB (l:=[UInt8.ofNat k]) (Bd.ofSl hl117 rfl rfl) Z58) hs rfl fun v11 G' _ hR hG118 hs=>?_)
   obtain rfl:=hR
   replace hR:=hR.mono hG118
   refine Ai hs hle hG118 (lSr _) ?_
   have hle:=hs.le
   refine Xo 16 rfl (Sp (Gf (hs2ok.c4 _ (AaD hixl)).1 (Hq _)) hs rfl fun v12 G' _ hR hG119 hs=>?_)
   obtain rfl:=hR
   refine Ai hs hle hG119 (lSr _)<|Xt 17 hs rfl (Cl ix underlying28 sizeOf86 rfl rfl rfl hixl<|Xn 18 rfl (Gw (vs:=(Df (s2.cls[ix]'hixl) (Xb [UInt8.ofNat k])).map Bb) hs.f2 sizeOf86 rfl rfl Z15 (Dk _) hixl fun _ hs =>Xe (Zk [1,2,3,8,9,10,11,34] rfl ?_)))
   refine Zr<|Zy hs (Ya (s:=((k+1:Nat):Int)) rfl<|Wp 1 [] hs rfl ?_)
   have hs:=hs.f4.f4.f2.f4.f4
   have hst:mE t B R sm k=mH s2 c k:=by rw [fY,← hce,hs2f]
   have hcs:(s2.cls.set ix (Df s2.cls[ix] (Xb [UInt8.ofNat k])))=(mH s2 c k).cls:=by unfold mH;dsimp only;rw [Bn hc2,hix];simp only [AbE];rw [Bn hixl]
   refine Zx [1,2,3,8,9,10,11,34] rfl ⟨k+1,mH s2 c k,v9,_,_,by omega,by rw [fZ,← hsm,hst],aX hs2ok hcc (by rw [Bn hc2,hix];omega),rfl,rfl,Bh hs Z34⟩
  have hz0:¬ sm.of.getD c 0<0:=by rw [Bn (by rw [hmo.ol];exact hcc),← hz];exact h45
  refine Wp 3 [0] hs rfl ?_
  have hs:=hs.f4.f4.f4.f4.f4
  replace hs:=hs.wk [_,_,_,_,_]
  obtain ⟨s2,hs2e⟩:∃ s,s=sm:=⟨_,rfl⟩
  have hs2ok:=hmo.up
  have hz2:0≤sm.of.getD c 0:=by omega
  have hs2f:s2=if sm.of.getD c 0<0 then nD t B R sm c else sm:=by rw [if_neg hz0];exact hs2e
  rw [← hs2e] at hs2ok hz2
  replace hs:=Bh (H':=[.obj b21 (.map (En Ji s2.keys).toArray s2.keys.length),.row 3 1 (v9) s2.cells.length (s2.cells.map Bl),.row 86 4 (v10) s2.cls.length (Dq s2.cls),.row 3 1 (Vs b24 t.cells t.cells) t.cells (s2.of.map Lj),.blk b3 160 (Co t.cell t.cells (.slice An t.next.length cn) (.slice Aa t.acc.length ca))]) hs (by rw [hs2e])
  have hc2:c<s2.of.length:=by rw [hs2ok.ol];exact hcc
  obtain ⟨ix,hix⟩:=Abp hz2
  rw [Bn hc2] at hix
  have hixl:ix<s2.cls.length:=by have h:=(hs2ok.lt s2.of[c] (AaD _)).2;rw [hs2ok.cl];omega
  obtain ⟨b10,cap10,hb10,_⟩:=hs.rowForm 2 rfl oM
  subst hb10
  refine Bg [0,1,2,3,4,5,6,7,8,9,10,11,12,13,14,15,16,17] hs kR ?_
  replace hs:=hs.drew
  refine Xr [0,1,2] [] hs rfl<|Xt 3 hs rfl (Be (c) underlying79 sizeOf3 rfl rfl rfl oM<|Xt 4 hs rfl (Cm 3 rfl isAgg3 rfl ((Je hc2).trans (by rw [hix]))<|Xr [5,6,7] [] hs rfl<|Xt 8 hs rfl (Be (c) underlying79 sizeOf3 rfl rfl rfl oM<|Xt 9 hs rfl (Cm 3 rfl isAgg3 rfl ((Je hc2).trans (by rw [hix]))<|Xt 10 hs rfl (Cl ix underlying28 sizeOf86 rfl rfl rfl hixl<|Xt 11 hs rfl (Ge 2 rfl isAgg86 sizeOf86 rfl hixl (Hz hs2ok.c4 hixl) Z24<|Xr [12] [] hs rfl<|Xt 13 hs rfl (Dj underlying3 underlying5 (c:=((UInt8.ofNat k).toNat:Int)) rfl (Dx _) ?_)))))))
  have hle:=hs.le
  refine Xo 14 rfl (Bw hs underlying22 sizeOf5 zeroValue5 rfl rfl dC dC rfl (cs:=[_]) rfl rfl fun v13 _ hs _=>?_)
  obtain ⟨_,hG117,hl117,hs⟩:=hs.fixRow noM
  replace hR:=hR.mono hG117
  refine Ai hs hle hG117 (lSr _) ?_
  have hle:=hs.le
  refine Xo 15 rfl (Sp (eB (l:=[UInt8.ofNat k]) (Bd.ofSl hl117 rfl rfl) Z58) hs rfl fun v14 G' _ hR hG118 hs=>?_)
  obtain rfl:=hR
  replace hR:=hR.mono hG118
  refine Ai hs hle hG118 (lSr _) ?_
  have hle:=hs.le
  refine Xo 16 rfl (Sp (Gf (hs2ok.c4 _ (AaD hixl)).1 (Hq _)) hs rfl fun v15 G' _ hR hG119 hs=>?_)
  obtain rfl:=hR
  refine Ai hs hle hG119 (lSr _)<|Xt 17 hs rfl (Cl ix underlying28 sizeOf86 rfl rfl rfl hixl<|Xn 18 rfl (Gw (vs:=(Df (s2.cls[ix]'hixl) (Xb [UInt8.ofNat k])).map Bb) hs.f2 sizeOf86 rfl rfl Z15 (Dk _) hixl fun _ hs =>Xe (Zk [1,2,3,8,9,10,11,34] rfl ?_)))
  refine Zr<|Zy hs (Ya (s:=((k+1:Nat):Int)) rfl<|Wp 1 [] hs rfl ?_)
  have hs:=hs.f4.f4.f2.f4.f4
  have hst:mE t B R sm k=mH s2 c k:=by rw [fY,← hce,hs2f]
  have hcs:(s2.cls.set ix (Df s2.cls[ix] (Xb [UInt8.ofNat k])))=(mH s2 c k).cls:=by unfold mH;dsimp only;rw [Bn hc2,hix];simp only [AbE];rw [Bn hixl]
  refine Zx [1,2,3,8,9,10,11,34] rfl ⟨k+1,mH s2 c k,v9,_,_,by omega,by rw [fZ,← hsm,hst],aX hs2ok hcc (by rw [Bn hc2,hix];omega),rfl,rfl,Bh hs Z34⟩
 refine Wp 4 [0] hs rfl<|Wu 7 [0] hs rfl<|As ?_
 obtain rfl:k=256:=by omega
 have hs:=hs.f1
 obtain ⟨_,hG_hf9,hf9,hs⟩:=hs.fixRow noM
 have hs:=hs.f1
 obtain ⟨_,hG_hf10,hf10,hs⟩:=hs.fixRow noM
 refine By (vs:=[_,_]) results144 rfl ⟨rfl,rfl,trivial⟩ ?_
 try dsimp only [tup]
 have hmm:sm=Ky t B R:=hsm
 replace hf9:=hf9.mono hG_hf10
 exact hs.q ⟨_,_,rfl,by rw [← hmm];exact hf9,by rw [← hmm];exact Px hf10 hmo.c4⟩
theorem nN:places prog 37=some [(0,1),(1,1),(2,1)]:=by kernel_rfl
theorem gA:TI prog 79 (Vn) 1 24:=TI.of kR
def Dg (G:Ah) (vs:List Value) (l:List (List Nat)):Prop:=Cw (fun v r=>De G v r) vs l
theorem Dg.mono {G G':Ah} (h:G.le G') {vs:List Value} {l:List (List Nat)} (hl:Dg G vs l):Dg G' vs l:=Cw.mono (fun _ _ hn=>hn.mono h) hl
theorem Dg.snoc {vs:List Value} {l:List (List Nat)} {v:Value} {r:List Nat} (hl:Dg G vs l) (h:De G v r):Dg G (vs++[v]) (l++[r]):=Cw.snoc hl h
theorem Dg.one:∀ {vs:List Value} {l:List (List Nat)},Dg G vs l→∀ y∈vs,y.oneCell'=true
  | [],_,_,y,hy=>by cases hy
  | v::vs,r::l,h,y,hy=>by
    rcases AaV.1 hy with rfl | hy
    · obtain ⟨A,c,rfl,_⟩:=h.1;rfl
    · exact Dg.one h.2 y hy
theorem Dg.fin {v:Value} {n:Nat} {vs:List Value} {l:List (List Nat)} (h:Sl G v 1 n vs) (hn:n=l.length) (hl:Dg G vs l):LN G v l:=by
  refine Bi.ofSl (cs:=vs.map fun v=>[v]) h Z10 hn ?_ sM
  revert hl
  clear h hn
  induction vs generalizing l with
  | nil=>intro h;cases l with
    | nil=>trivial
    | cons _ _=>cases h
  | cons v vs ih=>intro h;cases l with
    | nil=>cases h
    | cons r l=>exact ⟨⟨v,rfl,h.1⟩,ih h.2⟩
theorem gB {n:Nat}:∀ (r:List Nat) (st:Rch),st.1.length=n→(∀ x∈st.2,x<n)→st.2.length+st.1.count false=n→1≤st.2.length→(∀ x∈r,x<n) →
    (r.foldl Jx st).1.length=n∧(∀ x∈(r.foldl Jx st).2,x<n)∧(r.foldl Jx st).2.length+(r.foldl Jx st).1.count false=n∧1≤(r.foldl Jx st).2.length
  | [],_,h1,h2,h3,h4,_=>⟨h1,h2,h3,h4⟩
  | x::r,(sn,l),h1,h2,h3,h4,h5=>by
    have hx:=h5 x sM
    rw [Aao]
    cases hb:sn[x]'(by dsimp only at h1;omega) with
    | true=>rw [rC (st:=(sn,l)) (by dsimp only at h1 ⊢;omega) hb];exact gB r _ h1 h2 h3 h4 fun y hy=>h5 y (by simp [hy])
    | false =>
      rw [jZ (st:=(sn,l)) (by dsimp only at h1 ⊢;omega) hb]
      have hc:=Xh (l:=sn) (x:=x) (by dsimp only at h1;omega) hb
      dsimp only at h1 h2 h3 h4
      refine gB r _ (by rw [AaP];exact h1) ?_ (by simp only [AaB,Aac];omega) sM fun y hy=>h5 y (by simp [hy])
      intro y hy
      rcases AaS.1 hy with hy | hy
      · exact h2 y hy
      · rw [AaE.1 hy];exact hx
theorem kD {t:Tb} (hok:t.ok) {L:List Nat}:∀ (f i:Nat) (st:Rch),st.1.length=t.next.length→(∀ x∈st.2,x<t.next.length)→st.2.length+st.1.count false=t.next.length→1≤st.2.length→Ss t f i st=some L →
    1≤L.length∧L.length≤t.next.length∧∀ x∈L,x<t.next.length
  | 0,_,_,_,_,_,_,h=>by cases h
  | f+1,i,st,h1,h2,h3,h4,h=>by
    rw [Ss] at h
    split at h
    · rename_i hi
      have hs:st.2.getD i 0<t.next.length:=h2 _ (by rw [Bn hi];exact AaD _)
      obtain ⟨a,b,c,d⟩:=gB (n:=t.next.length) (t.next.getD (st.2.getD i 0) []) st h1 h2 h3 h4 (by rw [Bn hs];exact (hok.2.2.2.2.1 _ (AaD _)).2)
      exact kD hok f (i+1) _ a b c d h
    · injection h with h;subst h
      exact ⟨h4,by omega,h2⟩
theorem uP {t:Tb} (hok:t.ok) {L:List Nat} (h:Ul t=some L):1≤L.length∧L.length≤t.next.length∧∀ x∈L,x<t.next.length:=by
  have h1:=hok.1
  refine kD hok _ _ _ ?_ ?_ ?_ ?_ h
  · simp
  · intro x hx;simp only [AaE] at hx;omega
  · have:=Xh (l:=List.replicate t.next.length false) (x:=0) tE sM
    simp only [List.count_replicate_self] at this
    simp only [Aac];omega
  · simp
structure Wr (n:Nat) (l:List Nat) (st:Rf):Prop where
  kl:st.keys.length=st.reps.length
  nl:st.next.length=n
  lt:∀ x∈st.next,x<st.reps.length∨x=0
  mem:∀ x∈st.reps,x∈l
theorem rfP_ok {t:Tb} {b:List Nat} {n:Nat} {l:List Nat} {st:Rf} {s:Nat} (h:Wr n l st) (hs:s∈l):Wr n l (Xc t b st s)∧1≤(Xc t b st s).reps.length∧(Xc t b st s).reps.length≤st.reps.length+1:=by
  obtain ⟨ks,nx,rp⟩:=st
  have hkl:ks.length=rp.length:=h.kl
  by_cases hk:Bc (Hr t b s) ks<ks.length
  · rw [fW hk]
    refine ⟨⟨h.kl,by simpa using h.nl,fun x hx=>?_,h.mem⟩,by dsimp only;omega,by dsimp only;omega⟩
    rcases AbB hx with hx | rfl
    · exact h.lt x hx
    · left;dsimp only;omega
  · rw [fX hk]
    refine ⟨⟨by simp [hkl],by simpa using h.nl,fun x hx=>?_,fun x hx=>?_⟩,by simp,by simp⟩
    · rcases AbB hx with hx | rfl
      · rcases h.lt x hx with h1 | h1
        · left;dsimp only at h1 ⊢;rw [AaB];omega
        · exact .inr h1
      · left;simp
    · rcases AaS.1 hx with hx | hx
      · exact h.mem x hx
      · rw [AaE.1 hx];exact hs
theorem yY {t:Tb} {b:List Nat} {n:Nat} {l:List Nat}:∀ (r:List Nat) (st:Rf),Wr n l st→(∀ x∈r,x∈l)→(r≠[]∨1≤st.reps.length)→Wr n l (r.foldl (Xc t b) st)∧1≤(r.foldl (Xc t b) st).reps.length∧(r.foldl (Xc t b) st).reps.length≤st.reps.length+r.length
  | [],st,h,_,h2=>⟨h,h2.resolve_left sM,by simp⟩
  | s::r,st,h,h1,_=>by
    rw [Aao]
    obtain ⟨a,b1,c⟩:=rfP_ok (t:=t) (b:=b) h (h1 s sM)
    obtain ⟨d,e,f⟩:=yY (t:=t) (b:=b) r _ a (fun x hx=>h1 x pB) (.inr b1)
    exact ⟨d,e,by rw [AaZ];omega⟩
theorem rN {t:Tb} {n:Nat} {l B R:List Nat} (hl:1≤l.length):∀ (f:Nat) (b:List Nat) (c:Nat),b.length=n→mD t l f b c=some (B,R)→B.length=n∧1≤R.length∧R.length≤l.length∧(∀ x∈B,x<R.length)∧∀ x∈R,x∈l
  | 0,_,_,_,h=>by cases h
  | f+1,b,c,hb,h=>by
    have key:=yY (t:=t) (b:=b) (n:=n) (l:=l) l ⟨[],List.replicate b.length 0,[]⟩ ⟨rfl,by simpa using hb,fun x hx=>.inr (Aba hx),by simp⟩ (fun _ h=>h) (.inl (by intro e;subst e;simp at hl))
    rw [mD] at h
    split at h
    · injection h with h;rw [Prod.mk.injEq] at h
      obtain ⟨rfl,rfl⟩:=h
      obtain ⟨a,b1,c1⟩:=key
      refine ⟨a.nl,b1,by simp only [List.length_nil,Abr] at c1;exact c1,fun x hx=>?_,a.mem⟩
      rcases a.lt x hx with h | h
      · exact h
      · rw [h];exact b1
    · exact rN hl f _ _ key.1.nl h
theorem nO {t:Tb} {l B R:List Nat} (hl:1≤l.length) (h:Pq t l=some (B,R)):B.length=t.next.length∧1≤R.length∧R.length≤l.length∧(∀ x∈B,x<R.length)∧∀ x∈R,x∈l:=by
  refine rN hl _ _ _ ?_ h
  unfold rfB
  have:∀ (l:List Nat) (b:List Nat),(l.foldl (fun b s=>if t.acc.getD s false=true then b.set s 1 else b) b).length=b.length:=by
    intro l
    induction l with
    | nil=>intro b;rfl
    | cons s l ih=>intro b;rw [Aao,ih];split<;>simp
  rw [this];simp
theorem uQ {t:Tb} (hok:t.ok) {B R:List Nat} (hcl:t.cell.length=256):Ws t 256 (Ky t B R):=nM hcl hok.2.2.2.2.2 256 oM
theorem kE {t:Tb} (hok:t.ok) {B R:List Nat} (hcl:t.cell.length=256):∀ c∈(Ky t B R).cells,c<t.cells:=by
  have key:∀ (xs:List Nat) (st:Mg),(∀ x∈xs,x<256)→(∀ c∈st.cells,c<t.cells)→∀ c∈(xs.foldl (mE t B R) st).cells,c<t.cells:=by
    intro xs
    induction xs with
    | nil=>intro st _ h;exact h
    | cons x xs ih =>
      intro st hx h
      rw [Aao]
      refine ih _ (fun y hy=>hx y (by simp [hy])) ?_
      have hc:t.cell.getD x 0<t.cells:=by rw [Bn (by rw [hcl];exact hx x sM)];exact hok.2.2.2.2.2 _ (AaD _)
      intro c hcm
      unfold mE at hcm
      dsimp only at hcm
      split at hcm
      · unfold nD at hcm
        dsimp only at hcm
        split at hcm
        · exact h c hcm
        · rcases AaS.1 hcm with hcm | hcm
          · exact h c hcm
          · rw [AaE.1 hcm];exact hc
      · exact h c hcm
  exact key _ _ (fun x hx=>Aae.1 hx) sM
structure Vc (m k:Nat) (st:Cn):Prop where
  pl:st.place.length=m
  od:st.order.length+st.place.count (-1)=m
  lt:∀ x∈st.order,x<m
  rg:∀ z∈st.place,z=-1∨(0≤z∧z<st.order.length)
  rw:st.row.length=k
theorem kF {l:List Int} {x:Nat} {z:Int} (h:x<l.length) (hx:l[x]=-1) (hz:0≤z):(l.set x z).count (-1)+1=l.count (-1):=by
  rw [List.count_set (h:=h),hx]
  have:0<l.count (-1):=List.count_pos_iff.2 (by rw [← hx];exact AaD h)
  have hz1:(z == -1)=false:=by simp;omega
  simp [hz1];omega
theorem yZ {t:Tb} {b:List Nat} {s c x:Nat} {st:Cn} (h:x=b.getD (t.to s c) 0):tS t b s st c =
    (let st:=if st.place.getD x 0<0 then { st with place:=st.place.set x (st.order.length:Int),order:=st.order++[x] } else st
     { st with row:=st.row++[(st.place.getD x 0).toNat] }):=by unfold tS;rw [h]
theorem rO {m k:Nat} {st:Cn} {x:Nat} (h:Vc m k st) (hx:x<m) {st2:Cn} (h2:st2=if st.place.getD x 0<0 then { st with place:=st.place.set x (st.order.length:Int),order:=st.order++[x] } else st) :
    Vc m k st2∧0≤st2.place.getD x 0∧st2.place.getD x 0<st2.order.length:=by
  obtain ⟨pl,od,rw_⟩:=st
  have hp:pl.length=m:=h.pl
  have hl:x<pl.length:=by omega
  split at h2
  · rename_i hz
    subst h2
    dsimp only at hz
    rw [Bn hl] at hz
    have hz1:pl[x]=-1:=by rcases h.rg _ (AaD hl) with e | e;exact e;omega
    have hc:=kF (z:=(od.length:Int)) hl hz1 oM
    have hod:od.length+pl.count (-1)=m:=h.od
    refine ⟨⟨by simpa using hp,?_,?_,?_,h.rw⟩,?_,?_⟩
    · simp only [AaB,Aac];omega
    · intro y hy
      rcases AaS.1 hy with hy | hy
      · exact h.lt y hy
      · rw [AaE.1 hy];exact hx
    · intro z hz
      rcases AbB hz with hz | rfl
      · rcases h.rg z hz with e | e
        · exact .inl e
        · right;simp only [AaB,Aac];dsimp only at e;omega
      · right;simp only [AaB,Aac];omega
    · simp [hl]
    · simp [hl];omega
  · rename_i hz
    subst h2
    dsimp only at hz ⊢
    refine ⟨h,by omega,?_⟩
    rw [Bn hl] at hz ⊢
    rcases h.rg _ (AaD hl) with e | e
    · omega
    · exact e.2
theorem cn_init {m b:Nat} (hb:b<m):Vc m 0 ⟨(List.replicate m (-1)).set b 0,[b],[]⟩:=by
  have hc:=kF (l:=List.replicate m (-1)) (x:=b) (z:=0) (by simpa using hb) sM oM
  rw [List.count_replicate_self] at hc
  refine ⟨by simp,by simp only [Aac];omega,?_,?_,rfl⟩
  · intro x hx;rw [AaE.1 hx];exact hb
  · intro z hz
    rcases AbB hz with hz | rfl
    · exact .inl (Aba hz)
    · right;simp
theorem Hh {r:List Nat} {n k v:Nat} (hr:r.length=k) (h:k<n):(r++List.replicate (n-k) 0).set k v=(r++[v])++List.replicate (n-(k+1)) 0:=by
  subst hr
  rw [AbM _ _ oM,Aaw,show n-r.length=(n-(r.length+1))+1 by omega,AbY,AcH,AaI];rfl
theorem Vc.snoc {m k:Nat} {st:Cn} {v:Nat} (h:Vc m k st):Vc m (k+1) { st with row:=st.row++[v] }:=⟨h.pl,h.od,h.lt,h.rg,by simp [h.rw]⟩
theorem Vc.le {m k:Nat} {st:Cn} (h:Vc m k st):st.order.length≤m:=by have:=h.od;omega
theorem Vc.fresh {m k:Nat} {st:Cn} {x:Nat} (h:Vc m k st) (hx:x<st.place.length) (hz:st.place.getD x 0<0):st.order.length+1≤m:=by
  rw [Bn hx] at hz
  have hz1:st.place[x]=-1:=by rcases h.rg _ (AaD hx) with e | e;exact e;omega
  have:0<st.place.count (-1):=List.count_pos_iff.2 (by rw [← hz1];exact AaD hx)
  have:=h.od
  omega
theorem cnG_pos {t:Tb} {b r cells od:List Nat} {pl:List Int} {f i:Nat} {nx:List (List Nat)} {ac:List Bool} {D:List (List Nat)×List Bool} (h:vX t b r cells f i pl od nx ac=some D):0<f:=by
  cases f with
  | zero=>cases h
  | succ f=>omega
theorem cnG_go {t:Tb} {b r cells od:List Nat} {pl:List Int} {f i s:Nat} {nx:List (List Nat)} {ac:List Bool} {D:List (List Nat)×List Bool} {st:Cn} (hi:i<od.length) (hs:s=r.getD (od.getD i 0) 0) (hst:st=cells.foldl (tS t b s) ⟨pl,od,[]⟩) (h:vX t b r cells (f+1) i pl od nx ac=some D) :
    vX t b r cells f (i+1) st.place st.order (nx++[st.row]) (ac++[t.acc.getD s false])=some D:=by
  rw [vX,if_pos hi] at h
  subst hs hst
  exact h
theorem cnG_end {t:Tb} {b r cells od:List Nat} {pl:List Int} {f i:Nat} {nx:List (List Nat)} {ac:List Bool} {D:List (List Nat)×List Bool} (hi:od.length≤i) (h:vX t b r cells f i pl od nx ac=some D):D=(nx,ac):=by
  cases f with
  | zero=>cases h
  | succ f=>rw [vX,if_neg oM] at h;injection h with h;exact h.symm
def Hm (G:Ah) (v:Value) (d:Cy):Prop:=∃ vc vn va,v=.agg #[vc,vn,va]∧Hl G vc d.cls∧LN G vn d.next∧Dt G va d.acc
theorem Hm.mono {G G':Ah} (h:G.le G') {v:Value} {d:Cy} (hd:Hm G v d):Hm G' v d:=by
  obtain ⟨vc,vn,va,e,h1,h2,h3⟩:=hd
  exact ⟨vc,vn,va,e,h1.mono h,h2.mono h,h3.mono h⟩
theorem nP {t:Tb} {D:Cy} (h:Eu t=some D):∃ l B R,Ul t=some l∧Pq t l=some (B,R)∧∃ nx ac,vX t B R (Ky t B R).cells (R.length+1) 0 ((List.replicate R.length (-1)).set (B.getD 0 0) 0) [B.getD 0 0] [] []=some (nx,ac)∧D=⟨(Ky t B R).cls,nx,ac⟩:=by
  unfold Eu at h
  split at h
  · cases h
  · rename_i l hl
    split at h
    · cases h
    · rename_i B R hR
      simp only at h
      split at h
      · cases h
      · rename_i nx ac hc
        injection h with h
        exact ⟨l,B,R,hl,hR,nx,ac,hc,h.symm⟩
theorem canon_ok {v:Value} {t:Tb} {D:Cy} (ht:iC G v t) (hok:t.ok) (hD:Eu t=some D) :
  Ba prog 93 [v] G [] fun r G' H'=>H'=[]∧Hm G' r D:=by
 obtain ⟨un,ua,rfl,hcl,hN,hA⟩:=ht
 obtain ⟨An,cn,rfl⟩:=Bi.slice hN
 obtain ⟨Aa,ca,rfl,_⟩:=id hA
 obtain ⟨L,B,R,hL,hRf,nx0,ac0,hcg,rfl⟩:=nP hD
 obtain ⟨hL1,hL2,hLN⟩:=uP hok hL
 obtain ⟨hBl,hR1,hR2,hBR,hRL⟩:=nO hL1 hRf
 have hn2:=hok.2.1
 have hal:=hok.2.2.1
 have hrows:=hok.2.2.2.2.1
 have hmg:=uQ (B:=B) (R:=R) hok hcl
 have hRN:∀ x∈R,x<t.next.length:=fun x hx=>hLN x (hRL x hx)
 have hml:=hmg.le
 have hmc:=kE (B:=B) (R:=R) hok hcl
 obtain ⟨M,hM⟩:∃ M,M=Ky t B R:=⟨_,rfl⟩
 rw [← hM] at hcg hmg hml hmc ⊢
 refine Ba.of_T [(0,_)] func93 rfl ntmps93 sM rfl fun w0 hs=>?_
 have hN0:=hN
 have hA0:=hA
 refine Wt 2 [] hs rfl<|O_s (Fj hs rfl (cs:=_) rfl fun b1 _ hs =>O_s (Sa hs zeroValue37 rfl fun b2 _ hs=>Wp 2 [0] hs rfl<|Bg [0,1,2,3,4,5,6,7,8] hs kR ?_))
 replace hs:=hs.drew
 refine Xt 0 hs rfl (Yk 1 rfl (Cf hcl)<|Xt 1 hs rfl (Yk 1 rfl (Cf hcl) ?_))
 have hle:=hs.le
 refine Xo 2 rfl (Sp (rch_ok ⟨_,_,rfl,hcl,hN,hA⟩ hok hL) hs rfl fun v1 G' _ hLv hG20 hs=>?_)
 obtain ⟨AL,cL,rfl,_⟩:=id hLv
 replace hN:=hN.mono hG20
 replace hA:=hA.mono hG20
 refine Ai hs hle hG20 (lSr _) ?_
 have hle:=hs.le
 refine Xo 3 rfl (Sp (uO ⟨_,_,rfl,hcl,hN,hA⟩ hok hLv oM hLN hRf) hs rfl fun v2 G' _ hR hG21 hs=>?_)
 obtain ⟨vb,vr,rfl,hB,hR⟩:=hR
 obtain ⟨AB,cB,rfl,_⟩:=id hB
 obtain ⟨AR,cR,rfl,_⟩:=id hR
 replace hN:=hN.mono hG21
 replace hA:=hA.mono hG21
 refine Ai hs hle hG21 (lSr _)<|Xr [4,5,6,7,8] [] hs rfl<|Xe (Zk [1,2,3,4] rfl<|Wu 2 [] hs rfl<|Zy hs (Yk 1 rfl (Cf hcl)<|Wp 2 [] hs rfl<|O_s (Sp (yX ⟨_,_,rfl,hcl,hN,hA⟩ hok hB hR hBl oM hRN) hs rfl fun v3 G' _ hR hG28 hs=>?_)))
 obtain ⟨vc,vk,rfl,hCe,hCl⟩:=hR
 rw [← hM] at hCe hCl
 obtain ⟨Ae,ce,rfl,_⟩:=id hCe
 obtain ⟨Ac,cc,rfl⟩:=Bi.slice hCl
 refine Wp 9 [0] hs rfl<|Zy hs (Ce zeroValue37 rfl nN rfl (cs:=[_,_,_]) rfl<|O_s (Sa hs zeroValue37 rfl fun b7 _ hs=>O_n (Lm hs sizeOf37 rfl rfl (vs:=[_,_,_]) rfl (rfl) sM (cs':=[_,_,_]) rfl fun _ hs =>Wp 5 [0] hs rfl<|O_s (Dw (n:=R.length) (m:=R.length) hs underlying79 Qx rfl rfl rfl oM oM oM fun b35 _ hs =>Wp 5 [0] hs rfl ?_))))
 replace hB:=hB.mono hG28
 refine Zy hs (Ct hB 0 underlying79 sizeOf3 rfl rfl rfl oM fun p37 hp37=>?_)
 obtain ⟨b0,hb0⟩:∃ x,x=B[0]'oM:=⟨_,rfl⟩
 rw [← hb0] at hp37
 have hb0R:b0<R.length:=hBR b0 (by rw [hb0];exact AaD _)
 refine Zy hs (Yg rfl (hp37)<|O_s (Bw hs underlying79 sizeOf3 zeroValue3 rfl rfl dC dC rfl (cs:=[_]) rfl rfl fun v4 _ hs _ =>Wp 9 [8,1,2,3,4,5,7,8,9,0] hs rfl ?_))
 have hs:=hs.f3.f4.f4.f3.f4
 replace hR:=hR.mono hG28
 refine Zl [1,2,3,4,5,7,8,9,41,42] (fun m E w=>∃ (k:Nat) (vo:Value) (G2:Ah),k≤R.length∧m=R.length-k∧De G2 (.slice AB B.length cB) B∧De G2 (.slice AR R.length cR) R∧De G2 (.slice Ae M.cells.length ce) M.cells∧Hl G2 (.slice Ac M.cls.length cc) M.cls∧E=⟨[],[(1,Vp b1),(2,Vp b2),(3,.slice AB B.length cB),(4,.slice AR R.length cR),(5,.slice Ae M.cells.length ce),(7,Vp b7),(8,Vs b35 R.length R.length),(9,vo),(41,Vi ((R.length:Nat):Int)),(42,Vi (k:Int))]⟩∧St ⟨w0,G,Bj []⟩ G2 [.row 3 1 (Vs b35 R.length R.length) R.length ((List.replicate k (-1)++List.replicate (R.length-k) 0).map Lj),.row 3 1 (vo) [b0].length ([b0].map Bl),.blk b7 37 [.slice Ac M.cls.length cc,Vn,Vn],.blk b1 160 (Co t.cell t.cells (.slice An t.next.length cn) (.slice Aa t.acc.length ca)),.blk b2 37 [Vn,Vn,Vn]] w) rfl (⟨0,_,_,by omega,rfl,hB,hR,hCe,hCl,rfl,by rw [AbH,AbA,Nat.sub_zero,Abk];exact hs⟩) fun m E w hI=>?_
 obtain ⟨k,vo,G2,hk,rfl,hB,hR,hCe,hCl,rfl,hs⟩:=hI
 replace hN:=hN.mono hG28
 have hN:=hN0.mono hs.le
 replace hA:=hA.mono hG28
 have hA:=hA0.mono hs.le
 refine Wt 2 [] hs rfl<|Zy hs (Yc rfl (fun h43=>?_) fun h43=>?_)
 ·
  refine Wp 14 [0,0] hs rfl<|Zy hs (Be (k) underlying79 sizeOf3 rfl rfl rfl oM<|O_n (Bz hs sizeOf3 rfl rfl rfl oM fun _ hs =>Wp 2 [0] hs rfl<|Zy hs (Ya (s:=((k+1:Nat):Int)) rfl<|Wp 1 [] hs rfl<|Zx [1,2,3,4,5,7,8,9,41,42] rfl ⟨k+1,_,_,by omega,rfl,hB,hR,hCe,hCl,rfl,by rw [← eD oM,Aad];exact hs⟩)))
 refine Wp 4 [0] hs rfl<|Wu 4 [] hs rfl<|Zy hs (Ct hB 0 underlying79 sizeOf3 rfl rfl rfl oM fun p51 hp51=>?_)
 rw [← hb0] at hp51
 refine Zy hs (Yg rfl (hp51)<|Zy hs (Be (b0) underlying79 sizeOf3 rfl rfl rfl oM<|O_n (Bz hs sizeOf3 rfl rfl rfl oM fun _ hs =>Wp 6 [0,0] hs rfl ?_)))
 obtain rfl:k=R.length:=by omega
 rw [Aaw,AbH,AaX] at hs
 have hs:=hs.nilRow 4 1
 have hs:=hs.nilRow 79 1
 have hs:=hs.f6.f6.f3.f3.f6.f6.f6
 have hc0:Vc R.length 0 ⟨(List.replicate R.length (-1)).set b0 0,[b0],[]⟩:=cn_init hb0R
 have hb0g:B.getD 0 0=b0:=by rw [Bn oM,hb0]
 rw [hb0g] at hcg
 rw [show ((List.replicate R.length (-1)).map Lj).set b0 (Vi 0)=(((List.replicate R.length (-1)).set b0 0).map Lj) by rw [Aad]] at hs
 refine Zl [1,2,3,4,5,7,8,9,11] (fun m E w=>∃ (f i:Nat) (pl:List Int) (od:List Nat) (nx:List (List Nat)) (ac:List Bool) (vs:List Value) (vo vn va:Value) (G2:Ah),vX t B R M.cells f i pl od nx ac=some (nx0,ac0)∧Vc R.length 0 ⟨pl,od,[]⟩∧nx.length=i∧ac.length=i∧vs.length=i∧i≤od.length∧Dg G2 vs nx∧m=f∧De G2 (.slice AB B.length cB) B∧De G2 (.slice AR R.length cR) R∧De G2 (.slice Ae M.cells.length ce) M.cells∧Hl G2 (.slice Ac M.cls.length cc) M.cls∧E=⟨[],[(1,Vp b1),(2,Vp b2),(3,.slice AB B.length cB),(4,.slice AR R.length cR),(5,.slice Ae M.cells.length ce),(7,Vp b7),(8,Vs b35 R.length R.length),(9,vo),(11,Vi (i:Int))]⟩∧St ⟨w0,G,Bj []⟩ G2 [.row 3 1 (Vs b35 R.length R.length) R.length (pl.map Lj),.row 3 1 (vo) od.length (od.map Bl),.blk b7 37 [.slice Ac M.cls.length cc,vn,va],.row 79 1 (vn) nx.length vs,.row 4 1 (va) ac.length (ac.map Da),.blk b1 160 (Co t.cell t.cells (.slice An t.next.length cn) (.slice Aa t.acc.length ca)),.blk b2 37 [Vn,Vn,Vn]] w) rfl (⟨R.length+1,0,_,[b0],[],[],[],_,_,_,_,hcg,hc0,rfl,rfl,rfl,by simp,trivial,rfl,hB,hR,hCe,hCl,rfl,hs⟩) fun m E w hI=>?_
 obtain ⟨f,i,pl,od,nx,ac,vs,vo,vn,va,G2,hg,hcn,hnl,hacl,hvl,hil,hrs,rfl,hB,hR,hCe,hCl,rfl,hs⟩:=hI
 have hN:=hN0.mono hs.le
 have hA:=hA0.mono hs.le
 refine Wt 5 [] hs rfl<|Zy hs (Dl 1 rfl underlying79 rfl hs<|Zy hs (Yc rfl (fun h57=>?_) fun h57=>?_))
 ·
  refine Wp 3 [0] hs rfl ?_
  obtain ⟨o,ho⟩:∃ o,o=od[i]'oM:=⟨_,rfl⟩
  have hoR:o<R.length:=hcn.lt o (by rw [ho];exact AaD _)
  refine Wu 7 [] hs rfl<|Zy hs (iL (j:=((i:Nat):Int)) (i) 1 rfl underlying79 sizeOf3 rfl rfl rfl oM (u:=Bl o) (by rw [ho];exact Jd oM) hs fun p63 hp63 =>Zy hs (pO isAgg3 rfl hp63 ?_))
  obtain ⟨s,hse⟩:∃ s,s=R[o]'oM:=⟨_,rfl⟩
  refine Zy hs (Ct hR o underlying79 sizeOf3 rfl rfl rfl oM fun p65 hp65=>?_)
  rw [← hse] at hp65
  have hsN:s<t.next.length:=hRN s Z46
  refine Zy hs (Yg rfl (hp65)<|Wp 6 [0] hs rfl<|O_s (Dw (n:=M.cells.length) (m:=M.cells.length) hs underlying79 Qx rfl rfl rfl oM oM oM fun b69 _ hs =>Wp 9 [11,1,2,3,4,5,7,8,9,11,12,13,0] hs rfl ?_))
  have hs:=hs.f7.f7.f7.f7.f7.f7.f7.f7
  rw [Hy] at hs
  refine Zl [1,2,3,4,5,7,8,9,11,12,13,70,71,72] (fun m E w=>∃ (k:Nat) (st:Cn) (vo:Value) (G2:Ah),k≤M.cells.length∧st=(M.cells.take k).foldl (tS t B s) ⟨pl,od,[]⟩∧Vc R.length k st∧i+1≤st.order.length∧Dg G2 vs nx∧m=M.cells.length-k∧De G2 (.slice AB B.length cB) B∧De G2 (.slice AR R.length cR) R∧De G2 (.slice Ae M.cells.length ce) M.cells∧Hl G2 (.slice Ac M.cls.length cc) M.cls∧E=⟨[],[(1,Vp b1),(2,Vp b2),(3,.slice AB B.length cB),(4,.slice AR R.length cR),(5,.slice Ae M.cells.length ce),(7,Vp b7),(8,Vs b35 R.length R.length),(9,vo),(11,Vi (i:Int)),(12,Vi (s:Int)),(13,Vs b69 M.cells.length M.cells.length),(70,.slice Ae M.cells.length ce),(71,Vi ((M.cells.length:Nat):Int)),(72,Vi (k:Int))]⟩∧St ⟨w0,G,Bj []⟩ G2 [.row 3 1 (Vs b69 M.cells.length M.cells.length) M.cells.length ((st.row++List.replicate (M.cells.length-k) 0).map Bl),.row 3 1 (Vs b35 R.length R.length) R.length (st.place.map Lj),.row 3 1 (vo) st.order.length (st.order.map Bl),.blk b7 37 [.slice Ac M.cls.length cc,vn,va],.row 79 1 (vn) nx.length vs,.row 4 1 (va) ac.length (ac.map Da),.blk b1 160 (Co t.cell t.cells (.slice An t.next.length cn) (.slice Aa t.acc.length ca)),.blk b2 37 [Vn,Vn,Vn]] w) rfl (⟨0,⟨pl,od,[]⟩,_,_,by omega,rfl,hcn,(show i+1≤od.length from by omega),hrs,rfl,hB,hR,hCe,hCl,rfl,hs⟩) fun m E w hI=>?_
  obtain ⟨k,st,vo,G2,hk,hst,hcn,hil,hrs,rfl,hB,hR,hCe,hCl,rfl,hs⟩:=hI
  have hN:=hN0.mono hs.le
  have hA:=hA0.mono hs.le
  refine Wt 2 [] hs rfl<|Zy hs (Yc rfl (fun h73=>?_) fun h73=>?_)
  ·
   refine Wp 9 [0] hs rfl<|Zy hs (Ct hCe k underlying79 sizeOf3 rfl rfl rfl oM fun p75 hp75=>?_)
   obtain ⟨c,hce⟩:∃ c,c=M.cells[k]'oM:=⟨_,rfl⟩
   rw [← hce] at hp75
   have hcc:c<t.cells:=hmc c (by rw [hce];exact AaD _)
   refine Zy hs (Yg rfl (hp75)<|Wp 7 [0,257] hs rfl<|Zy hs (Ej 6 isAgg35 rfl rfl (Gu hcl)<|Wp 1 [] hs rfl<|Zy hs (Ca hN s underlying35 sizeOf79 rfl rfl rfl oM fun p81 c81 hp81 hc81 hR81=>?_)))
   obtain ⟨rr,herr⟩:∃ r,r=t.next[s]'oM:=⟨_,rfl⟩
   rw [← herr] at hR81
   have hlrr:rr.length=t.cells∧∀ x∈rr,x<t.next.length:=hrows rr vW
   obtain ⟨u81,rfl,hrr⟩:=hR81
   obtain ⟨A81,c81,rfl,_⟩:=id hrr
   refine Zy hs (Yg rfl (hp81 0 (.slice A81 rr.length c81) rfl)<|Wp 1 [] hs rfl<|Zy hs (Ct hrr c underlying79 sizeOf3 rfl rfl rfl oM fun p84 hp84=>?_))
   obtain ⟨y,hye⟩:∃ y,y=rr[c]'oM:=⟨_,rfl⟩
   rw [← hye] at hp84
   have hyN:y<t.next.length:=hlrr.2 y Z48
   refine Zy hs (Yg rfl (hp84)<|Zy hs (Ct hB y underlying79 sizeOf3 rfl rfl rfl oM fun p86 hp86=>?_))
   obtain ⟨x,hxe⟩:∃ x,x=B[y]'oM:=⟨_,rfl⟩
   rw [← hxe] at hp86
   have hxR:x<R.length:=hBR x Z47
   refine Zy hs (Yg rfl (hp86)<|Wp 7 [16,1,2,3,4,5,7,8,9,11,12,13,14,16,70,71,72] hs rfl<|Zy hs (Be (x) underlying79 sizeOf3 rfl rfl rfl oM ?_))
   obtain ⟨z,hz⟩:∃ z,z=st.place[x]'(by rw [hcn.pl];exact hxR):=⟨_,rfl⟩
   refine Zy hs (Cm 1 rfl isAgg3 rfl (show (st.place.map Lj)[x]?=some (Lj z) from by rw [hz];exact Je (by rw [hcn.pl];exact hxR))<|Zy hs (Yc rfl (fun h92=>?_) fun h92=>?_))
   ·
    have hz0:st.place.getD x 0<0:=by rw [Bn (by rw [hcn.pl];exact hxR),← hz];exact h92
    have hfr:=hcn.fresh (x:=x) (by rw [hcn.pl];exact hxR) hz0
    refine Wp 7 [0] hs rfl<|Zy hs (Dl 2 rfl underlying79 rfl hs<|Zy hs (Be (x) underlying79 sizeOf3 rfl rfl rfl oM<|O_n (Bz hs.f1 sizeOf3 rfl rfl rfl oM fun _ hs =>Wp 4 [16,1,2,3,4,5,7,8,9,11,12,13,14,16,70,71,72] hs rfl<|O_s (Bw hs underlying79 sizeOf3 zeroValue3 rfl rfl dC dC rfl (cs:=[_]) rfl rfl fun v5 _ hs _=>?_))))
    obtain ⟨_,hG100,hl100,hs⟩:=hs.fixRow noM
    refine O_s (Au hs.f2 underlying79 Qx rfl dC rfl rfl (hl100) (Cp rfl) (by have:=hfr;omega) (by have:=hfr;omega) fun v6 _ hs =>Wp 2 [0] hs rfl ?_)
    have hs:=hs.f7.f7.f7.f7.f7.f5.f6.f7
    replace hs:=hs.wk [_,_,_,_,_,_,_,_]
    obtain ⟨st2,hs2e⟩:∃ s,s=({ st with place:=st.place.set x (st.order.length:Int),order:=st.order++[x] }:Cn):=⟨_,rfl⟩
    have hs2f:st2=if st.place.getD x 0<0 then { st with place:=st.place.set x (st.order.length:Int),order:=st.order++[x] } else st:=by rw [if_pos hz0];exact hs2e
    obtain ⟨hc2n,hz2,hz2l⟩:=rO hcn hxR hs2f
    have hi2l:i+1≤st2.order.length:=by rw [hs2e];first|exact hil|(simp only [AaB,Aac];omega)
    replace hs:=Bh (H':=[.row 3 1 (Vs b69 M.cells.length M.cells.length) M.cells.length ((st2.row++List.replicate (M.cells.length-k) 0).map Bl),.row 3 1 (Vs b35 R.length R.length) R.length (st2.place.map Lj),.row 3 1 (v6) st2.order.length (st2.order.map Bl),.blk b7 37 [.slice Ac M.cls.length cc,vn,va],.row 79 1 (vn) nx.length vs,.row 4 1 (va) ac.length (ac.map Da),.blk b1 160 (Co t.cell t.cells (.slice An t.next.length cn) (.slice Aa t.acc.length ca)),.blk b2 37 [Vn,Vn,Vn]]) hs (by rw [hs2e];simp [Bl,Lj,Aad])
    have hx2:x<st2.place.length:=by rw [hc2n.pl];exact hxR
    obtain ⟨ix,hix⟩:=Abp hz2
    have hr2l:=hc2n.rw
    have hxg:x=B.getD (t.to s c) 0:=by rw [Qj hsN Z61];simp only [← herr,← hye];rw [Bn oM,← hxe]
    have hstp:tS t B s st c={ st2 with row:=st2.row++[ix] }:=by rw [yZ hxg];simp only [← hs2f,hix];rfl
    rw [Bn hx2] at hix
    refine Wu 5 [] hs rfl<|Zy hs (Be (x) underlying79 sizeOf3 rfl rfl rfl oM<|Zy hs (Cm 1 rfl isAgg3 rfl ((Je hx2).trans (by rw [hix]))<|Zy hs (Be (k) underlying79 sizeOf3 rfl rfl rfl oM<|O_n (Bz hs sizeOf3 rfl rfl rfl oM fun _ hs =>Wp 2 [14,1,2,3,4,5,7,8,9,11,12,13,70,71,72] hs rfl<|Zy hs (Ya (s:=((k+1:Nat):Int)) rfl<|Wp 1 [] hs rfl ?_)))))
    have hs:=hs.f7.f7.f7.f7.f7.f7.f7.f7
    replace hB:=hB.mono hG100
    replace hR:=hR.mono hG100
    replace hCe:=hCe.mono hG100
    replace hCl:=hCl.mono hG100
    replace hrs:=hrs.mono hG100
    refine Zx [1,2,3,4,5,7,8,9,11,12,13,70,71,72] rfl ⟨k+1,{ st2 with row:=st2.row++[ix] },_,_,by omega,by rw [Fb _ _ _ _ oM,← hce,← hst,hstp],hc2n.snoc,hi2l,hrs,rfl,hB,hR,hCe,hCl,rfl,Bh hs (by rw [← Hh hr2l oM];simp [Bl,Aad])⟩
   have hz0:¬ st.place.getD x 0<0:=by rw [Bn (by rw [hcn.pl];exact hxR),← hz];exact h92
   refine Wp 3 [0] hs rfl ?_
   have hs:=hs.f7.f7.f7.f7.f7.f7.f7.f7
   replace hs:=hs.wk [_,_,_,_,_,_,_,_]
   obtain ⟨st2,hs2e⟩:∃ s,s=st:=⟨_,rfl⟩
   have hs2f:st2=if st.place.getD x 0<0 then { st with place:=st.place.set x (st.order.length:Int),order:=st.order++[x] } else st:=by rw [if_neg hz0];exact hs2e
   obtain ⟨hc2n,hz2,hz2l⟩:=rO hcn hxR hs2f
   have hi2l:i+1≤st2.order.length:=by rw [hs2e];first|exact hil|(simp only [AaB,Aac];omega)
   replace hs:=Bh (H':=[.row 3 1 (Vs b69 M.cells.length M.cells.length) M.cells.length ((st2.row++List.replicate (M.cells.length-k) 0).map Bl),.row 3 1 (Vs b35 R.length R.length) R.length (st2.place.map Lj),.row 3 1 (vo) st2.order.length (st2.order.map Bl),.blk b7 37 [.slice Ac M.cls.length cc,vn,va],.row 79 1 (vn) nx.length vs,.row 4 1 (va) ac.length (ac.map Da),.blk b1 160 (Co t.cell t.cells (.slice An t.next.length cn) (.slice Aa t.acc.length ca)),.blk b2 37 [Vn,Vn,Vn]]) hs (by rw [hs2e])
   have hx2:x<st2.place.length:=by rw [hc2n.pl];exact hxR
   obtain ⟨ix,hix⟩:=Abp hz2
   have hr2l:=hc2n.rw
   have hxg:x=B.getD (t.to s c) 0:=by rw [Qj hsN Z61];simp only [← herr,← hye];rw [Bn oM,← hxe]
   have hstp:tS t B s st c={ st2 with row:=st2.row++[ix] }:=by rw [yZ hxg];simp only [← hs2f,hix];rfl
   rw [Bn hx2] at hix
   refine Wu 5 [] hs rfl<|Zy hs (Be (x) underlying79 sizeOf3 rfl rfl rfl oM<|Zy hs (Cm 1 rfl isAgg3 rfl ((Je hx2).trans (by rw [hix]))<|Zy hs (Be (k) underlying79 sizeOf3 rfl rfl rfl oM<|O_n (Bz hs sizeOf3 rfl rfl rfl oM fun _ hs =>Wp 2 [14,1,2,3,4,5,7,8,9,11,12,13,70,71,72] hs rfl<|Zy hs (Ya (s:=((k+1:Nat):Int)) rfl<|Wp 1 [] hs rfl ?_)))))
   have hs:=hs.f7.f7.f7.f7.f7.f7.f7.f7
   refine Zx [1,2,3,4,5,7,8,9,11,12,13,70,71,72] rfl ⟨k+1,{ st2 with row:=st2.row++[ix] },_,_,by omega,by rw [Fb _ _ _ _ oM,← hce,← hst,hstp],hc2n.snoc,hi2l,hrs,rfl,hB,hR,hCe,hCl,rfl,Bh hs (by rw [← Hh hr2l oM];simp [Bl,Aad])⟩
  refine Wp 4 [0] hs rfl ?_
  obtain rfl:k=M.cells.length:=by omega
  rw [Aaw,AbH,AaX] at hs
  rw [Aaj] at hst
  obtain ⟨_,hG_hrow,hrow,hs⟩:=hs.fixRow noM
  have hrl:=hcn.rw
  have hol:st.order.length≤R.length:=hcn.le
  replace hrow:De _ (Vs b69 M.cells.length M.cells.length) st.row:=(show De _ _ _ from by unfold De;rw [hrl];exact hrow)
  refine Wu 5 [1,2] hs rfl<|O_s (Bw hs underlying35 sizeOf79 zeroValue79 rfl rfl dC dC rfl (cs:=[_]) rfl rfl fun v7 _ hs _=>?_)
  obtain ⟨_,hG113,hl113,hs⟩:=hs.fixRow noM
  refine O_s (Au hs.f3 underlying35 gA rfl dC rfl rfl (hl113) (Cp rfl) oM oM fun v8 _ hs =>Wp 1 [1] hs rfl<|O_n (Sd hs.f3 rfl (hs.f3.rowOne 1 rfl) fun _ hs=>Wp 1 [0] hs rfl<|Bg [0,1,2,3,4,5,6,7] hs kR ?_))
  replace hs:=hs.drew
  refine Xr [0,1,2] [2,0,258] hs rfl<|Xt 3 hs rfl (Ej 5 isAgg30 rfl rfl (Ld hcl)<|Xr [4] [] hs rfl ?_)
  replace hA:=hA.mono (hG_hrow.trans hG113)
  refine Xt 5 hs rfl (Ee s underlying30 sizeOf4 hA rfl rfl rfl (Dm oM) fun p121 hp121 =>Xt 6 hs rfl (Yg rfl (hp121) ?_))
  have hle:=hs.le
  refine Xo 7 rfl (Bw hs underlying30 sizeOf4 zeroValue4 rfl rfl dC dC rfl (cs:=[_]) rfl rfl fun v9 _ hs _=>?_)
  obtain ⟨_,hG123,hl123,hs⟩:=hs.fixRow noM
  have hGz:=hG_hrow.trans (hG113.trans hG123)
  replace hB:=hB.mono hGz
  replace hR:=hR.mono hGz
  replace hCe:=hCe.mono hGz
  replace hCl:=hCl.mono hGz
  replace hrs:=hrs.mono hGz
  replace hrow:=hrow.mono (hG113.trans hG123)
  refine Ai hs hle hG123 (lSr _)<|Xa 8 rfl (Au hs.f4 underlying30 Pw rfl dC rfl rfl (hl123) (Cp rfl) oM oM fun v10 _ hs =>Xa 9 rfl (S_y hs rfl (Yf 2 rfl<|Xn 10 rfl (Sd hs.f1 rfl (hs.f1.rowOne 1 rfl) fun _ hs=>Xe (Zk [1,2,3,4,5,7,8,9,11] rfl<|Wu 2 [] hs rfl<|Zy hs (Ya (s:=((i+1:Nat):Int)) rfl<|Wp 1 [] hs rfl ?_))))))
  have hs:=hs.f6.f6.f3.f4.f4.f6.f6
  have hfp:=cnG_pos hg
  obtain ⟨f1,rfl⟩:∃ g,m=g+1:=⟨m-1,by omega⟩
  have hgo:=cnG_go (s:=s) (show i<od.length by omega) (by rw [Bn (show i<od.length by omega),← ho,Bn hoR,hse]) hst hg
  rw [Bn (show s<t.acc.length by omega)] at hgo
  refine Zx [1,2,3,4,5,7,8,9,11] rfl ⟨f1,i+1,st.place,st.order,_,_,_,vo,v8,v10,_,hgo,⟨hcn.pl,hcn.od,hcn.lt,hcn.rg,rfl⟩,by simp [hnl],by simp [hacl],by simp [hvl],hil,Dg.snoc hrs hrow,rfl,hB,hR,hCe,hCl,rfl,Bh (hs.wk [_,_,_,_,_,_,_]) (by simp [Da])⟩
 refine Wp 3 [0] hs rfl ?_
 have hfe:=cnG_end oM hg
 rw [Prod.mk.injEq] at hfe
 obtain ⟨rfl,rfl⟩:=hfe
 have hs:=hs.f3
 obtain ⟨_,hG_hfn,hfn,hs⟩:=hs.fixRow noM
 have hs:=hs.f3
 obtain ⟨_,hG_hfa,hfa,hs⟩:=hs.fixRow noM
 replace hfn:=hfn.mono hG_hfa
 obtain ⟨Fn,fn,rfl,_⟩:=id hfn
 obtain ⟨Fa,fa,rfl,_⟩:=id hfa
 refine Wu 3 [2] hs rfl<|O_n (Lm hs.f4 sizeOf37 rfl rfl (vs:=[_,_,_]) rfl (rfl) sM (cs':=[_,_,_]) rfl fun _ hs =>Wp 1 [0] hs rfl<|As<|Zz results93 (Rb 0 hs rfl rF) ?_)
 have hGz:=hG_hfn.trans hG_hfa
 replace hCl:=hCl.mono hGz
 replace hrs:=hrs.mono hGz
 exact hs.q ⟨_,_,_,rfl,hCl,Dg.fin hfn rfl hrs,hfa⟩
def Wv (k:Nat) (bs:List UInt8) (a:List Nat):List Nat:=bs.foldl (fun a b=>a.set b.toNat k) a
theorem Th (k:Nat):∀ (bs:List UInt8) (a:List Nat),(Wv k bs a).length=a.length:=by
  intro bs
  induction bs with
  | nil=>intro a;rfl
  | cons b bs ih=>intro a;show (Wv k bs _).length=_;rw [ih,AaP]
theorem eE (k:Nat) (bs:List UInt8) (a:List Nat) (j:Nat) (h:j<bs.length):Wv k (bs.take (j+1)) a=(Wv k (bs.take j) a).set bs[j].toNat k:=by
  unfold Wv;rw [Bu _ _ bs j h]
def Ra (l:List (List Nat)) (k:Nat):List Nat:=((l.zipIdx).take k).foldl (fun cell ci=>Wv ci.2 (Br ci.1) cell) (List.replicate 256 0)
theorem eF {l:List (List Nat)} {k:Nat} (h:k<l.length):Ra l (k+1)=Wv k (Br l[k]) (Ra l k):=by
  unfold Ra
  rw [Bu _ _ _ k (by rw [List.length_zipIdx];exact h),List.getElem_zipIdx];simp only [Abr]
theorem Ha (l:List (List Nat)) (k:Nat):(Ra l k).length=256:=by
  unfold Ra
  have:∀ (xs:List (List Nat×Nat)) (a:List Nat),(xs.foldl (fun cell ci=>Wv ci.2 (Br ci.1) cell) a).length=a.length:=by
    intro xs
    induction xs with
    | nil=>intro a;rfl
    | cons x xs ih=>intro a;rw [Aao,ih,Th]
  rw [this,AaJ]
theorem Xj (d:Cy):Av d=⟨Ra d.cls d.cls.length,d.cls.length,d.next,d.acc⟩:=by
  unfold Av Ra
  rw [Aab (by rw [List.length_zipIdx];exact AaR _)];rfl
theorem eG {cell:List Nat} {n k x:Nat} {vn va:Value} (h:cell.length=256) (hk:k<256):(Co cell n vn va).set k (Bx x)=Co (cell.set k x) n vn va:=by
  unfold Co;rw [List.set_append_left _ _ iA,Aad]
theorem Gj {cell:List Nat} {n:Nat} {vn va:Value} (h1:vn.oneCell'=true) (h2:va.oneCell'=true):((Co cell n vn va).all fun v=>v.oneCell')=true:=by
  unfold Co
  rw [List.all_append,Aah]
  exact ⟨AbD.2 fun v hv=>by obtain ⟨x,_,rfl⟩:=Aaf.1 hv;rfl,by simp only [List.all_cons,List.all_nil,h1,h2,Bool.and_true];rfl⟩
theorem Le {v:Value} {d:Cy} (hd:Hm G v d) (hcl:d.cls.length≤256) (hT:Tab G) :
  Ba prog 94 [v] G [] fun r G' H'=>H'=[]∧iC G' r (Av d):=by
 obtain ⟨vc,vn,va,rfl,hC,hN,hA⟩:=hd
 obtain ⟨Ac,cc,rfl⟩:=Bi.slice hC
 obtain ⟨An,cn,rfl⟩:=Bi.slice hN
 obtain ⟨Aa,ca,rfl,_⟩:=id hA
 refine Ba.of_T [(0,_)] func94 rfl ntmps94 sM rfl fun w0 hs=>?_
 have hC0:=hC
 have hN0:=hN
 have hA0:=hA
 have hT0:=hT
 refine Wt 2 [] hs rfl<|O_s (Sb hs rfl fun b1 _ hs=>O_s (Bs hs zeroValue160 (cs:=(Co (List.replicate 256 0) 0 (Vn) (Vn))) rfl fun b2 _ hs =>Wp 10 [0,0,1,1,1,2,1] hs rfl<|Zy hs (Ce zeroValue160 rfl (pl:=[(0,256),(256,1),(257,1),(258,1)]) kR rfl (cs:=(Co (List.replicate 256 0) d.cls.length (.slice An d.next.length cn) (.slice Aa d.acc.length ca))) kR<|O_s (Bs hs zeroValue160 (cs:=(Co (List.replicate 256 0) 0 (Vn) (Vn))) rfl fun b3 _ hs =>O_n (Sw hs rfl Z5 Z5 (Gj rfl rfl) fun _ hs=>Wp 9 [0,0,2,0] hs rfl ?_)))))
 have hs:=hs.f1.f2.f2
 refine Zl [2,3,17,18,19] (fun m E w=>∃ (k:Nat) (G2:Ah),k≤d.cls.length∧m=d.cls.length-k∧E=⟨[],[(2,Vp b2),(3,Vp b3),(17,.slice Ac d.cls.length cc),(18,Vi ((d.cls.length:Nat):Int)),(19,Vi (k:Int))]⟩∧St ⟨w0,G,Bj []⟩ G2 [.blk b3 160 (Co (Ra d.cls k) d.cls.length (.slice An d.next.length cn) (.slice Aa d.acc.length ca)),.blk b1 37 [.slice Ac d.cls.length cc,.slice An d.next.length cn,.slice Aa d.acc.length ca],.blk b2 160 (Co (List.replicate 256 0) 0 (Vn) (Vn))] w) rfl (⟨0,_,by omega,rfl,rfl,hs⟩) fun m E w hI=>?_
 obtain ⟨k,G2,hk,rfl,rfl,hs⟩:=hI
 have hC:=hC0.mono hs.le
 have hN:=hN0.mono hs.le
 have hA:=hA0.mono hs.le
 have hT:=hT0.mono hs.le
 refine Wt 2 [] hs rfl<|Zy hs (Yc rfl (fun h20=>?_) fun h20=>?_)
 ·
  refine Wp 9 [0] hs rfl<|Zy hs (Ca hC k underlying28 sizeOf86 rfl rfl rfl oM fun p22 c22 hp22 hc22 hR22=>?_)
  obtain ⟨rfl,h4,h64⟩:=hR22
  refine Zy hs (Db (vs:=List.map Bb (d.cls[k]'oM)) isAgg86 sizeOf86 rfl hp22 hc22<|O_s (Bs hs zeroValue86 (cs:=(List.map Bb [0,0,0,0])) rfl fun b5 _ hs =>Wp 1 [] hs rfl<|O_n (Sw hs rfl (vs:=(List.map Bb (d.cls[k]'oM))) Z5 Z5 (Dk _) fun _ hs=>Wp 3 [0] hs rfl<|Zy hs (Yk 0 rfl Z5<|O_s (Sp (jX h4 h64 hT) hs rfl fun v1 G' _ hbb hG25 hs=>?_)))))
  obtain ⟨A25,c25,rfl,_⟩:=id hbb
  have hb256:=Qs h4 h64
  refine Wp 3 [0] hs rfl ?_
  have hs:=hs.f3.f3.f3
  refine Zl [2,3,4,17,18,19,25,26,27] (fun m E w=>∃ (j:Nat) (G2:Ah),j≤(Br (d.cls[k]'oM)).length∧Bd G2 (.slice A25 (Br (d.cls[k]'oM)).length c25) (Br (d.cls[k]'oM))∧m=(Br (d.cls[k]'oM)).length-j∧E=⟨[],[(2,Vp b2),(3,Vp b3),(4,Vi (k:Int)),(17,.slice Ac d.cls.length cc),(18,Vi ((d.cls.length:Nat):Int)),(19,Vi (k:Int)),(25,(.slice A25 (Br (d.cls[k]'oM)).length c25)),(26,Vi (((Br (d.cls[k]'oM)).length:Nat):Int)),(27,Vi (j:Int))]⟩∧St ⟨w0,G,Bj []⟩ G2 [.blk b3 160 (Co (Wv k ((Br (d.cls[k]'oM)).take j) (Ra d.cls k)) d.cls.length (.slice An d.next.length cn) (.slice Aa d.acc.length ca)),.blk b1 37 [.slice Ac d.cls.length cc,.slice An d.next.length cn,.slice Aa d.acc.length ca],.blk b2 160 (Co (List.replicate 256 0) 0 (Vn) (Vn))] w) rfl (⟨0,_,by omega,hbb,rfl,rfl,hs.wk [_,_,_]⟩) fun m E w hI=>?_
  obtain ⟨j,G2,hj,hbb,rfl,rfl,hs⟩:=hI
  replace hC:=hC.mono hG25
  have hC:=hC0.mono hs.le
  replace hN:=hN.mono hG25
  have hN:=hN0.mono hs.le
  replace hA:=hA.mono hG25
  have hA:=hA0.mono hs.le
  replace hT:=hT.mono hG25
  have hT:=hT0.mono hs.le
  refine Wt 2 [] hs rfl<|Zy hs (Yc rfl (fun h28=>?_) fun h28=>?_)
  ·
   refine Wp 8 [0] hs rfl<|Zy hs (Ek hbb j underlying22 sizeOf5 rfl rfl rfl oM fun p29 hp29 =>Zy hs (Yg rfl (hp29)<|Wp 6 [0,0] hs rfl<|Zy hs (Bp ((Br (d.cls[k]'oM))[j].toNat) underlying80 sizeOf3 rfl rfl rfl (by have:=(Br (d.cls[k]'oM))[j].toNat_lt;omega)<|O_n (Gc hs sizeOf3 rfl rfl rfl (by rw [Cf (by rw [Th];exact Ha _ _)];have:=(Br (d.cls[k]'oM))[j].toNat_lt;omega) (cs':=(Co (Wv k ((Br (d.cls[k]'oM)).take (j+1)) (Ra d.cls k)) d.cls.length (.slice An d.next.length cn) (.slice Aa d.acc.length ca))) (by rw [eE _ _ _ j oM];exact eG (by rw [Th];exact Ha _ _) (by have:=(Br (d.cls[k]'oM))[j].toNat_lt;omega)) fun _ hs =>Wp 2 [0] hs rfl<|Zy hs (Ya (s:=((j+1:Nat):Int)) rfl<|Wp 1 [] hs rfl ?_)))))
   have hs:=hs.f2.f2.f2
   refine Zx [2,3,4,17,18,19,25,26,27] rfl ⟨j+1,_,by omega,hbb,rfl,rfl,hs⟩
  refine Wp 4 [0] hs rfl ?_
  refine Zr<|Zy hs (Ya (s:=((k+1:Nat):Int)) rfl<|Wp 1 [] hs rfl ?_)
  have hs:=hs.f2.f2.f2
  refine Zx [2,3,17,18,19] rfl ⟨k+1,_,by omega,rfl,rfl,by rw [Aab oM,← eF oM] at hs;exact hs.wk [_,_,_]⟩
 refine Wp 4 [0] hs rfl<|Wu 2 [] hs rfl<|Zy hs (Yk 0 rfl (Cf (Ha _ _))<|O_n (Sw hs.f2 rfl Z5 Z5 (Gj rfl rfl) fun _ hs=>Wp 1 [0] hs rfl<|As<|Zz results94 (Rb 0 hs rfl Z5) ?_))
 obtain rfl:k=d.cls.length:=by omega
 exact hs.q (by rw [Xj];exact ⟨_,_,rfl,Ha _ _,hN,hA⟩)
theorem keyP:Hf prog 97 Gx:=Hf.pair underlying97 sizeOf3 isAgg3 underlying3
theorem rP {a b:Tb} {st:Jn} {x:Nat} {p:Nat×Nat} (hp:p=(a.cell.getD x 0,b.cell.getD x 0)) (h:Bc p st.keys<st.keys.length):fK a b st x={ st with cell:=st.cell++[Bc p st.keys] }:=by
  subst hp;unfold fK;simp only [if_pos h]
theorem rQ {a b:Tb} {st:Jn} {x:Nat} {p:Nat×Nat} (hp:p=(a.cell.getD x 0,b.cell.getD x 0)) (h:¬ Bc p st.keys<st.keys.length):fK a b st x=⟨st.keys++[p],st.cell++[st.bytes.length],st.bytes++[x]⟩:=by
  subst hp;unfold fK;simp only [if_neg h]
structure JnOk (k:Nat) (st:Jn):Prop where
  nd:st.keys.Nodup
  kl:st.keys.length=st.bytes.length
  cl:st.cell.length=k
  le:st.bytes.length≤k
  lt:∀ c∈st.cell,c<st.bytes.length
  bt:∀ x∈st.bytes,x<k
theorem jnP_ok {a b:Tb} {k:Nat} {st:Jn} (h:JnOk k st):JnOk (k+1) (fK a b st k):=by
  by_cases hp:Bc (a.cell.getD k 0,b.cell.getD k 0) st.keys<st.keys.length
  · rw [rP rfl hp]
    refine ⟨h.nd,h.kl,by simp [h.cl],by have:=h.le;show st.bytes.length≤_;omega,fun c hc=>?_,fun x hx=>by have:=h.bt x hx;omega⟩
    rcases AaS.1 hc with hc | hc
    · exact h.lt c hc
    · rw [AaE.1 hc];have:=h.kl;show _<st.bytes.length;omega
  · rw [rQ rfl hp]
    refine ⟨Ix h.nd hp,by simp [h.kl],by simp [h.cl],by have:=h.le;simp;omega,fun c hc=>?_,fun x hx=>?_⟩
    · rcases AaS.1 hc with hc | hc
      · have:=h.lt c hc;simp;omega
      · rw [AaE.1 hc];simp
    · rcases AaS.1 hx with hx | hx
      · have:=h.bt x hx;omega
      · rw [AaE.1 hx];omega
def mI (a b:Tb) (k:Nat):Jn:=(List.range k).foldl (fK a b) ⟨[],[],[]⟩
theorem aY {a b:Tb} (k:Nat):mI a b (k+1)=fK a b (mI a b k) k:=by unfold mI;rw [AbC,Aap];rfl
theorem Vd {a b:Tb}:∀ k,JnOk k (mI a b k)
  | 0=>⟨Aaz,rfl,rfl,AaR _,(fun c hc=>(AbI hc).elim),(fun c hc=>(AbI hc).elim)⟩
  | k+1=>by rw [aY];exact jnP_ok (Vd k)
theorem uR (a b:Tb):Fv a b=mI a b 256:=rfl
def Ob (l:List Nat) (k:Nat):List Value:=List.map Bx (l++List.replicate (256-k) 0)
theorem eH {l:List Nat} {k v:Nat} (hl:l.length=k) (h:k<256):(Ob l k).set k (Bx v)=Ob (l++[v]) (k+1):=by
  unfold Ob;rw [← Hh hl h,Aad]
theorem Mo {l:List Nat} {k:Nat} (hl:l.length=k) (h:k≤256):(Ob l k).length=256:=by unfold Ob;simp;omega
theorem nQ {l:List Nat} (hl:l.length=256):Ob l 256=l.map Bx:=by unfold Ob;rw [Aaw,AbH,AaX]
theorem Hb {l:List Nat}:((l.map Bx).all fun v=>v.oneCell')=true:=by
  rw [AbD];intro v hv;obtain ⟨x,_,rfl⟩:=Aaf.1 hv;rfl
theorem uS {l:List Nat} {k:Nat}:((Ob l k).all fun v=>v.oneCell')=true:=Hb
theorem aO {v w:Value} {x y:Tb} (htx:iC G v x) (hty:iC G w y) :
  Ba prog 170 [v,w] G [] fun r G' H'=>H'=[]∧∃ vb,r=.tuple #[.agg ((Fv x y).cell.map Bx).toArray,vb]∧De G' vb (Fv x y).bytes:=by
 obtain ⟨ux,wx,rfl,hcx,hNx,hAx⟩:=htx
 obtain ⟨Nx,nx,rfl⟩:=Bi.slice hNx
 obtain ⟨Ax,ax,rfl,_⟩:=id hAx
 obtain ⟨uy,wy,rfl,hcy,hNy,hAy⟩:=hty
 obtain ⟨Ny,ny,rfl⟩:=Bi.slice hNy
 obtain ⟨Ay,ay,rfl,_⟩:=id hAy
 refine Ba.of_T [(0,_),(1,_)] func170 rfl ntmps170 sM rfl fun w0 hs =>Wt 2 [] hs rfl<|O_s (Fj hs rfl (cs:=_) rfl fun b2 _ hs =>O_s (Fj hs rfl (cs:=_) rfl fun b3 _ hs =>O_s (Bs hs zeroValue80 (cs:=(List.map Bx (List.replicate 256 0))) rfl fun b4 _ hs =>Wp 4 [0] hs rfl<|O_s (Bs hs zeroValue80 (cs:=(List.map Bx (List.replicate 256 0))) rfl fun b6 _ hs =>Wp 7 [0,0] hs rfl<|O_s (Fm hs fun b13 _ hs =>Wp 7 [0,0] hs rfl ?_)))))
 have hs:=hs.nilRow 3 1
 have hs:=hs.f4.f5.f5.f5.f4.f5
 refine Zl [2,3,4,6,7,8,14] (fun m E w=>∃ (k:Nat) (v7:Value) (G2:Ah),k≤256∧m=256-k∧E=⟨[],[(2,Vp b2),(3,Vp b3),(4,Vp b4),(6,Vp b6),(7,v7),(8,.map (some b13)),(14,Vi (k:Int))]⟩∧St ⟨w0,G,Bj []⟩ G2 [.obj b13 (.map (En Gx (mI x y k).keys).toArray (mI x y k).keys.length),.row 3 1 (v7) (mI x y k).bytes.length ((mI x y k).bytes.map Bl),.blk b6 80 (Ob (mI x y k).cell k),.blk b4 80 (Ob [] 0),.blk b2 160 (Co x.cell x.cells (.slice Nx x.next.length nx) (.slice Ax x.acc.length ax)),.blk b3 160 (Co y.cell y.cells (.slice Ny y.next.length ny) (.slice Ay y.acc.length ay))] w) rfl (⟨0,_,_,by omega,rfl,rfl,hs⟩) fun m E w hI=>?_
 obtain ⟨k,v7,G2,hk,rfl,rfl,hs⟩:=hI
 have hjo:=Vd (a:=x) (b:=y) k
 refine Wt 2 [] hs rfl<|Zy hs (Yc rfl (fun h15=>?_) fun h15=>?_)
 ·
  refine Wp 11 [0,0] hs rfl ?_
  obtain ⟨a0,ha0⟩:∃ z,z=x.cell.getD k 0:=⟨_,rfl⟩
  obtain ⟨b0,hb0⟩:∃ z,z=y.cell.getD k 0:=⟨_,rfl⟩
  have hnd:=hjo.nd
  refine Wu 1 [] hs rfl<|Bg [0,1,2,3,4,5,6,7,8,9] hs kR ?_
  replace hs:=hs.drew
  refine Xr [0,1] [0] hs rfl<|Xt 2 hs rfl (Bp k underlying80 sizeOf3 rfl rfl rfl oM<|Xt 3 hs rfl (Ej 4 isAgg3 rfl rfl (show (Co x.cell x.cells (.slice Nx x.next.length nx) (.slice Ax x.acc.length ax))[k]?=some (Bl a0) from by rw [ha0];exact Qy hcx oM)<|Xr [4,5] [0] hs rfl<|Xt 6 hs rfl (Bp k underlying80 sizeOf3 rfl rfl rfl oM<|Xt 7 hs rfl (Ej 5 isAgg3 rfl rfl (show (Co y.cell y.cells (.slice Ny y.next.length ny) (.slice Ay y.acc.length ay))[k]?=some (Bl b0) from by rw [hb0];exact Qy hcy oM)<|Xt 8 hs rfl (Dr underlying97 sizeOf3 zeroValue97 rfl rfl (cs:=[_,_]) rfl ?_)))))
  have hle:=hs.le
  refine Xo 9 rfl (Sa hs zeroValue97 rfl fun b10 _ hs=>Ai hs hle (gLr _) (Aax _ _)<|Xn 10 rfl (Lm hs sizeOf97 rfl rfl (vs:=[_,_]) rfl (rfl) sM (cs':=[_,_]) rfl fun _ hs =>Xe (Zk [2,3,4,6,7,8,9,10,14] rfl<|Wu 4 [0] hs rfl<|Zy hs (Fp (a:=(a0,b0)) 1 rfl underlying98 keyP zeroValue3 hnd rfl rfl (fun hno=>?_) (fun hyes=>?_)))))
  ·
   refine Wp 16 [0,0] hs rfl<|Zy hs (Dl 2 rfl underlying79 rfl hs<|Wp 7 [0,0] hs rfl<|O_n (Ks hs.f1 underlying98 keyP hnd hno rfl rfl (by rw [hjo.kl];rfl) fun _ hs =>Wp 4 [9,2,3,4,6,7,8,9,11,14] hs rfl<|O_s (Bw hs underlying79 sizeOf3 zeroValue3 rfl rfl dC dC rfl (cs:=[_]) rfl rfl fun v1 _ hs _=>?_)))
   obtain ⟨_,hG41,hl41,hs⟩:=hs.fixRow noM
   refine O_s (Au hs.f2 underlying79 Qx rfl dC rfl rfl (hl41) (Cp rfl) (by have:=hjo.le;omega) (by have:=hjo.le;omega) fun v2 _ hs =>Wp 5 [0] hs rfl<|Zy hs (Bp k underlying80 sizeOf3 rfl rfl rfl oM<|O_n (Gc hs.f3 sizeOf3 rfl rfl rfl (by rw [Mo hjo.cl oM];omega) (cs':=Ob ((mI x y k).cell++[(mI x y k).bytes.length]) (k+1)) (eH hjo.cl oM) fun _ hs =>Wp 2 [0] hs rfl<|Zy hs (Ya (s:=((k+1:Nat):Int)) rfl<|Wp 1 [] hs rfl ?_))))
   have hs:=hs.f6.f6.f6.f3.f4.f5
   have hst:=rQ (a:=x) (b:=y) (st:=mI x y k) (x:=k) (p:=(a0,b0)) (by rw [ha0,hb0]) hno
   refine Zx [2,3,4,6,7,8,14] rfl ⟨k+1,v2,_,by omega,rfl,rfl,Bh (hs.wk [_,_,_,_,_,_]) (by rw [aY,hst];simp [Bl])⟩
  refine Wp 17 [0,0] hs rfl<|Zy hs (Bp k underlying80 sizeOf3 rfl rfl rfl oM<|O_n (Gc hs.f3 sizeOf3 rfl rfl rfl (by rw [Mo hjo.cl oM];omega) (cs':=Ob ((mI x y k).cell++[(Bc (a0,b0) (mI x y k).keys)]) (k+1)) (eH hjo.cl oM) fun _ hs =>Wp 2 [0] hs rfl<|Zy hs (Ya (s:=((k+1:Nat):Int)) rfl<|Wp 1 [] hs rfl ?_)))
  have hs:=hs.f6.f6.f6.f3.f6.f6
  have hst:=rP (a:=x) (b:=y) (st:=mI x y k) (x:=k) (p:=(a0,b0)) (by rw [ha0,hb0]) hyes
  refine Zx [2,3,4,6,7,8,14] rfl ⟨k+1,v7,_,by omega,rfl,rfl,Bh (hs.wk [_,_,_,_,_,_]) (by rw [aY,hst])⟩
 refine Wp 4 [0] hs rfl<|Wu 2 [] hs rfl<|Zy hs (Yk 2 rfl (Mo (Vd _).cl oM)<|Wp 1 [] hs rfl<|O_n (pP hs.f3 sizeOf80 rfl rfl (vs:=_) Z2 Z2 (uS) fun _ hs =>Wp 2 [0] hs rfl<|As ?_))
 have hs:=hs.f2
 obtain ⟨_,hG_hf7,hf7,hs⟩:=hs.fixRow noM
 have hr:=hs
 refine By (vs:=[_,_]) results170 rfl ⟨Bq 0 hr isAgg80 sizeOf80 rfl (cs:=_) rfl Z2,rfl,trivial⟩ ?_
 try dsimp only [tup]
 obtain rfl:k=256:=by omega
 exact hs.q ⟨_,by rw [nQ hjo.cl];rfl,hf7⟩
theorem TI240:TI prog 240 (.agg #[Vi 0,Vi 0,.int .u64 0]) 3 24:=TI.of kR
def uT (a:Cs):List Value:=[Vi (a.p:Int),Vi (a.q:Int),.int .u64 (a.s:Int)]
def stK (a:Cs):Value:=.agg #[Vi (a.p:Int),Vi (a.q:Int),.int .u64 (a.s:Int)]
def stF (l:List Cs):List Value:=(l.map uT).flatten
theorem zA (l:List Cs) (a:Cs):stF (l++[a])=stF l++uT a:=by unfold stF;simp
theorem nS:∀ {l:List Cs} {i:Nat} (h:i<l.length),((stF l).drop (i*3)).take 3=uT l[i]
  | a::l,0,_=>by show (uT a++stF l).take 3=_;rfl
  | a::l,i+1,h=>by
    show ((uT a++stF l).drop ((i+1)*3)).take 3=_
    rw [List.drop_append,show (i+1)*3-(uT a).length=i*3 by simp [uT];omega,AbU (by simp [uT];omega),AbA]
    exact nS iB
theorem zB:Hf prog 240 stK:=Hf.state (p:=Cs.p) (q:=Cs.q) (s:=Cs.s) (fun a b h1 h2 h3=>by cases a;cases b;simp_all) underlying240 kR dC dC dC rfl rfl rfl rfl rfl rfl isAgg3 underlying3 underlying238 sizeOf238 isAgg238 sizeOf84 isAgg84 underlying84
theorem putL_pre:∀ (ys a xs r:List Value),xs.length=ys.length→Qo (a++xs++r) a.length ys=a++ys++r
  | [],a,[],r,_=>rfl
  | y::ys,a,x::xs,r,h=>by
    rw [Qo]
    have h1:(a++x::xs++r).set a.length y=(a++[y])++xs++r:=by
      rw [AaI,AbM _ _ oM,Aaw];simp
    rw [h1,show a.length+1=(a++[y]).length by simp,putL_pre ys (a++[y]) xs r iB]
    simp
theorem fill276 {cell:List Nat} {n:Nat} (h:cell.length=256):Gd (([(0,256),(256,1),(257,1),(258,1)]:List (Nat×Nat))[·]?) (Co (List.replicate 256 0) 0 (Vn) (Vn)) [(0,.agg (cell.map Bx).toArray),(1,Vi (n:Int))]=some (Co cell n (Vn) (Vn)):=by
  have h2:(cell.map Bx).length=256:=by rw [AaC];exact h
  have hp:=putL_pre (cell.map Bx) [] (List.map Bx (List.replicate 256 0)) [Vi 0,Vn,Vn] (by rw [h2,AaC,AaJ])
  have hl:(Co (List.replicate 256 0) 0 (Vn) (Vn)).length=259:=Cf AaJ
  have ht:Qo (Co (List.replicate 256 0) 0 (Vn) (Vn)) 0 (cell.map Bx)=cell.map Bx++[Vi 0,Vn,Vn]:=hp
  rw [Gd]
  simp only [List.getElem?_cons_zero,show (Value.agg (cell.map Bx).toArray).cells.toList=cell.map Bx from rfl,h2,hl,ht]
  show Gd _ (cell.map Bx++_) _=_
  rw [Gd]
  simp only [List.getElem?_cons_succ,List.getElem?_cons_zero,show (Value.int .i64 (n:Int)).cells.toList=[Vi (n:Int)] from rfl]
  have hl2:(cell.map Bx++[Value.int .i64 0,Vn,Vn]).length=259:=by rw [AaB,h2];rfl
  rw [hl2]
  simp only [show ([Value.int .i64 (n:Int)].length.beq 1 && (256+[Value.int .i64 (n:Int)].length).ble 259)=true from rfl,cond_true]
  rw [Gd,Qo,Qo,AbM _ _ oM,h2]
  rfl
theorem Ve {cell:List Nat} {n:Nat} {vn va v:Value} (h:cell.length=256):(Co cell n vn va).set 257 v=Co cell n v va:=by
  unfold Co;rw [AbM _ _ iA,AaC,h];rfl
theorem Kj {cell:List Nat} {n:Nat} {vn va v:Value} (h:cell.length=256):(Co cell n vn va).set 258 v=Co cell n vn v:=by
  unfold Co;rw [AbM _ _ iA,AaC,h];rfl
theorem exP_old {nx:Cs→Nat→Cs} {most:Nat} {s to:Cs} {st:Ex} {b:Nat} (ht:to=nx s b) (h:Bc to st.l<st.l.length):mF nx most s (some st) b=some { st with row:=st.row++[Bc to st.l] }:=by
  subst ht;unfold mF;simp only [if_pos h]
theorem exP_new {nx:Cs→Nat→Cs} {most:Nat} {s to:Cs} {st:Ex} {b:Nat} (ht:to=nx s b) (h:¬ Bc to st.l<st.l.length) (hm:¬ st.l.length=most):mF nx most s (some st) b=some ⟨st.l++[to],st.row++[st.l.length]⟩:=by
  subst ht;unfold mF;simp only [if_neg h,if_neg hm]
theorem zC {nx:Cs→Nat→Cs} {most:Nat} {s to:Cs} {st:Ex} {b:Nat} (ht:to=nx s b) (h:¬ Bc to st.l<st.l.length) (hm:st.l.length=most):mF nx most s (some st) b=none:=by
  subst ht;unfold mF;simp only [if_neg h,if_pos hm]
theorem kG {nx:Cs→Nat→Cs} {most:Nat} {s:Cs}:∀ (bs:List Nat),bs.foldl (mF nx most s) none=none
  | []=>rfl
  | _::bs=>kG bs
theorem ex_here {nx:Cs→Nat→Cs} {most k:Nat} {s:Cs} {bs:List Nat} {o:Option Ex} {z:Ex} {S:Ex} (h:bs.foldl (mF nx most s) o=some S) (hk:k<bs.length) (hz:(bs.take k).foldl (mF nx most s) o=some z):mF nx most s (some z) bs[k]≠none:=by
  intro hn
  rw [← List.take_append_drop (k+1) bs,Aap,Bu _ _ bs k hk,hz,hn,kG] at h
  cases h
theorem exG_pos {bytes:List Nat} {nx:Cs→Nat→Cs} {ac:Cs→Bool} {most f i:Nat} {l:List Cs} {nt:List (List Nat)} {ct:List Bool} {R:Option (List (List Nat)×List Bool)} (h:qA bytes nx ac most f i l nt ct=some R):0<f:=by
  cases f with
  | zero=>cases h
  | succ f=>omega
theorem exG_end {bytes:List Nat} {nx:Cs→Nat→Cs} {ac:Cs→Bool} {most f i:Nat} {l:List Cs} {nt:List (List Nat)} {ct:List Bool} {R:List (List Nat)×List Bool} (hi:l.length≤i) (h:qA bytes nx ac most f i l nt ct=some (some R)):R=(nt,ct):=by
  cases f with
  | zero=>cases h
  | succ f =>
    rw [qA,AaL hi] at h
    injection h with h;injection h with h;exact h.symm
theorem exG_go {bytes:List Nat} {nx:Cs→Nat→Cs} {ac:Cs→Bool} {most f i:Nat} {l:List Cs} {nt:List (List Nat)} {ct:List Bool} {R:List (List Nat)×List Bool} (hi:i<l.length) (h:qA bytes nx ac most (f+1) i l nt ct=some (some R)) :
    ∃ st,bytes.foldl (mF nx most l[i]) (some ⟨l,[]⟩)=some st∧qA bytes nx ac most f (i+1) st.l (nt++[st.row]) (ct++[ac l[i]])=some (some R):=by
  rw [qA,AaA hi] at h
  simp only at h
  split at h
  · cases h
  · rename_i st hst
    exact ⟨st,hst,h⟩
structure cW (ok:Cs→Prop) (most i k:Nat) (s:Cs) (st:Ex):Prop where
  nd:st.l.Nodup
  at':st.l[i]?=some s
  rl:st.row.length=k
  ok:∀ a∈st.l,ok a
  le:st.l.length≤most
theorem cW.gt {ok:Cs→Prop} {most i k:Nat} {s:Cs} {st:Ex} (h:cW ok most i k s st):∃ hi:i<st.l.length,st.l[i]=s:=AbN.1 h.at'
theorem cW.old {ok:Cs→Prop} {most i k v:Nat} {s:Cs} {st:Ex} (h:cW ok most i k s st):cW ok most i (k+1) s ⟨st.l,st.row++[v]⟩:=⟨h.nd,h.at',by simp [h.rl],h.ok,h.le⟩
theorem cW.new {ok:Cs→Prop} {most i k v:Nat} {s to:Cs} {st:Ex} (h:cW ok most i k s st) (ht:ok to) (hno:¬ Bc to st.l<st.l.length) (hm:¬ st.l.length=most):cW ok most i (k+1) s ⟨st.l++[to],st.row++[v]⟩:=by
  refine ⟨Ix h.nd hno,?_,by simp [h.rl],fun a ha=>?_,by have:=h.le;simp;omega⟩
  · obtain ⟨hi,he⟩:=h.gt
    show (st.l++[to])[i]?=some s
    rw [AaN hi,AaA hi,he]
  · rcases AaS.1 ha with ha | ha
    · exact h.ok a ha
    · rw [AaE.1 ha];exact ht
theorem stC_one {a:Cs}:∀ y∈[Value.int .i64 (a.p:Int),Vi (a.q:Int),.int .u64 (a.s:Int)],y.oneCell'=true:=by
  intro y hy
  simp only [AaV,AbI,or_false] at hy
  rcases hy with rfl | rfl | rfl<;>rfl
theorem expl_ok {vb:Value} {cell bytes:List Nat} {start:Cs} {nx:Cs→Nat→Cs} {ac:Cs→Bool} {ok:Cs→Prop} {most f1 f2:Nat} {lb1 lb2:List Value} {fn1 fn2:Func} {R:List (List Nat)×List Bool} (hcl:cell.length=256) (hb:De G vb bytes) (hbl:bytes.length≤256) (hm1:1≤most) (hmost:most≤1073741824) (hst:ok start) (hokn:∀ s,∀ c∈bytes,ok s→ok (nx s c))
  (hfn1 : prog.funcs[f1]? = some fn1) (hbd1 : fn1.body.isSome = true) (hnm1 : (fn1.name == "runtime.NumGoroutine") = false) (hfn2 : prog.funcs[f2]? = some fn2) (hbd2 : fn2.body.isSome = true) (hnm2 : (fn2.name == "runtime.NumGoroutine") = false)
  (hg1:∀ (G':Ah) (s:Cs) (c:Nat),ok s→c∈bytes→G.le G'→Ba prog f1 (.agg #[Vi (s.p:Int),Vi (s.q:Int),.int .u64 (s.s:Int)]::Vi (c:Int)::lb1) G' [] fun r _ H'=>H'=[]∧r=stK (nx s c)) (hg2:∀ (G':Ah) (s:Cs),ok s→G.le G'→Ba prog f2 (.agg #[Vi (s.p:Int),Vi (s.q:Int),.int .u64 (s.s:Int)]::lb2) G' [] fun r _ H'=>H'=[]∧r=.bool (ac s)) (hR:qA bytes nx ac most (most+1) 0 [start] [] []=some (some R)) :
  Ba prog 172 [(.agg (cell.map Bx).toArray),vb,.agg #[Vi (start.p:Int),Vi (start.q:Int),.int .u64 (start.s:Int)],.func (.func f1) #[] lb1.toArray,.func (.func f2) #[] lb2.toArray,Vi (most:Int)] G [] fun r G' H'=>H'=[]∧∃ vt,r=.tuple #[vt,Vt]∧iC G' vt ⟨cell,bytes.length,R.1,R.2⟩:=by
 obtain ⟨Ab,cb,rfl,_⟩:=id hb
 refine Ba.of_T [(0,_),(1,_),(2,_),(3,_),(4,_),(5,_)] func172 rfl ntmps172 sM rfl fun w0 hs=>?_
 have hb0:=hb
 refine Wt 2 [] hs rfl<|O_s (Fj hs rfl (cs:=_) rfl fun b6 _ hs =>O_s (Sb hs rfl fun b8 _ hs=>O_s (Bs hs zeroValue160 (cs:=(Co (List.replicate 256 0) 0 (Vn) (Vn))) rfl fun b12 _ hs =>Wp 4 [0] hs rfl<|Zy hs (Yk 2 rfl Z11<|Wp 2 [] hs rfl<|Zy hs (Ce (zs:=(Co (List.replicate 256 0) 0 (Vn) (Vn))) zeroValue160 kR (pl:=[(0,256),(256,1),(257,1),(258,1)]) kR rfl (cs:=(Co cell bytes.length (Vn) (Vn))) (fill276 hcl)<|O_s (Bs hs zeroValue160 (cs:=(Co (List.replicate 256 0) 0 (Vn) (Vn))) rfl fun b14 _ hs =>O_n (pP hs sizeOf160 rfl rfl (vs:=_) Z11 Z11 (Gj rfl rfl) fun _ hs =>Wp 3 [0] hs rfl<|O_s (Fm hs fun b28 _ hs =>Wp 1 [3] hs rfl<|O_n (fC (ks:=([]:List Cs)) (a:=start) (enc:=stK) hs underlying268 zB Aaz (by simp [Bc]) rfl rfl rfl fun _ hs =>Wp 6 [0,3] hs rfl<|O_s (Bw hs underlying269 sizeOf240 zeroValue240 rfl rfl dC dC rfl (cs:=[_,_,_]) rfl rfl fun v1 _ hs _ =>Wp 7 [0,0] hs rfl ?_))))))))))
 have hs:=hs.nilRow 4 1
 have hs:=hs.nilRow 79 1
 have hs:=hs.f5.f6.f7.f4.f4.f7.f6.f7
 refine Zl [1,3,4,5,12,14,15,16,17] (fun m E w=>∃ (f i:Nat) (l:List Cs) (nt:List (List Nat)) (ct:List Bool) (vs:List Value) (vl vn va:Value) (G2:Ah),qA bytes nx ac most f i l nt ct=some (some R)∧l.Nodup∧(∀ a∈l,ok a)∧l.length≤most∧nt.length=i∧ct.length=i∧vs.length=i∧i≤l.length∧Dg G2 vs nt∧m=f∧E=⟨[],[(1,(.slice Ab bytes.length cb)),(3,.func (.func f1) #[] lb1.toArray),(4,.func (.func f2) #[] lb2.toArray),(5,Vi (most:Int)),(12,Vp b12),(14,Vp b14),(15,.map (some b28)),(16,vl),(17,Vi (i:Int))]⟩∧St ⟨w0,G,Bj []⟩ G2 [.obj b28 (.map (En stK l).toArray l.length),.row 240 3 (vl) l.length (stF l),.blk b14 160 (Co cell bytes.length vn va),.row 79 1 (vn) nt.length vs,.row 4 1 (va) ct.length (ct.map Da),.blk b6 80 (List.map Bx cell),.blk b8 240 (uT start),.blk b12 160 (Co (List.replicate 256 0) 0 (Vn) (Vn))] w) rfl (⟨most+1,0,[start],[],[],[],_,_,_,_,hR,by simp,by intro a ha;rw [AaE.1 ha];exact hst,hm1,rfl,rfl,rfl,by simp,trivial,rfl,rfl,hs⟩) fun m E w hI=>?_
 obtain ⟨f,i,l,nt,ct,vs,vl,vn,va,G2,hg,hlnd,hlok,hlm,hnl,hacl,hvl,hil1,hrs,rfl,rfl,hs⟩:=hI
 have hb:=hb0.mono hs.le
 refine Wt 5 [] hs rfl<|Zy hs (Dl 1 rfl underlying269 rfl hs<|Zy hs (Yc rfl (fun h36=>?_) fun h36=>?_))
 ·
  refine Wp 3 [0] hs rfl ?_
  have hfp:=exG_pos hg
  obtain ⟨fu1,rfl⟩:∃ g,m=g+1:=⟨m-1,by omega⟩
  have hil0:i<l.length:=by omega
  obtain ⟨S,hfull,hrest⟩:=exG_go hil0 hg
  obtain ⟨s,hse⟩:∃ z,z=l[i]:=⟨_,rfl⟩
  rw [← hse] at hfull hrest
  have hex0:cW ok most i 0 s ⟨l,[]⟩:=⟨hlnd,by show l[i]?=_;rw [AaA hil0,hse],rfl,hlok,hlm⟩
  refine Wu 6 [] hs rfl<|O_s (Dw (n:=bytes.length) (m:=bytes.length) hs underlying79 Qx rfl rfl rfl oM oM oM fun b41 _ hs =>Wp 9 [0,0] hs rfl ?_)
  have hs:=hs.f8.f8.f8.f8.f8.f8.f8.f8.f8
  rw [Hy] at hs
  refine Zl [1,3,4,5,12,14,15,16,17,18,42,43,44] (fun m E w=>∃ (k:Nat) (st:Ex) (vl:Value) (G2:Ah),k≤bytes.length∧(bytes.take k).foldl (mF nx most s) (some ⟨l,[]⟩)=some st∧cW ok most i k s st∧Dg G2 vs nt∧m=bytes.length-k∧E=⟨[],[(1,(.slice Ab bytes.length cb)),(3,.func (.func f1) #[] lb1.toArray),(4,.func (.func f2) #[] lb2.toArray),(5,Vi (most:Int)),(12,Vp b12),(14,Vp b14),(15,.map (some b28)),(16,vl),(17,Vi (i:Int)),(18,Vs b41 bytes.length bytes.length),(42,(.slice Ab bytes.length cb)),(43,Vi ((bytes.length:Nat):Int)),(44,Vi (k:Int))]⟩∧St ⟨w0,G,Bj []⟩ G2 [.row 3 1 (Vs b41 bytes.length bytes.length) bytes.length ((st.row++List.replicate (bytes.length-k) 0).map Bl),.obj b28 (.map (En stK st.l).toArray st.l.length),.row 240 3 (vl) st.l.length (stF st.l),.blk b14 160 (Co cell bytes.length vn va),.row 79 1 (vn) nt.length vs,.row 4 1 (va) ct.length (ct.map Da),.blk b6 80 (List.map Bx cell),.blk b8 240 (uT start),.blk b12 160 (Co (List.replicate 256 0) 0 (Vn) (Vn))] w) rfl (⟨0,⟨l,[]⟩,_,_,by omega,rfl,hex0,hrs,rfl,rfl,hs⟩) fun m E w hI=>?_
  obtain ⟨k,st,vl,G2,hk,hst2,hex,hrs,rfl,rfl,hs⟩:=hI
  have hb:=hb0.mono hs.le
  refine Wt 2 [] hs rfl<|Zy hs (Yc rfl (fun h45=>?_) fun h45=>?_)
  ·
   refine Wp 9 [0] hs rfl<|Zy hs (Ct hb k underlying79 sizeOf3 rfl rfl rfl oM fun p47 hp47=>?_)
   obtain ⟨c,hce⟩:∃ z,z=bytes[k]'oM:=⟨_,rfl⟩
   rw [← hce] at hp47
   have hcb:c∈bytes:=by rw [hce];exact AaD _
   refine Zy hs (Yg rfl (hp47)<|Wp 3 [0] hs rfl ?_)
   obtain ⟨hil,hsi⟩:=hex.gt
   obtain ⟨bl,capl,hzbl,_⟩:=hs.rowForm 2 rfl oM
   subst hzbl
   obtain ⟨to,hto⟩:∃ z,z=nx s c:=⟨_,rfl⟩
   have hos:ok s:=by rw [← hsi];exact hex.ok _ (AaD _)
   have hot:ok to:=by rw [hto];exact hokn s c hcb hos
   have hnd:=hex.nd
   have hlmx:=hex.le
   refine Wu 5 [] hs rfl<|Zy hs (Cl i underlying269 sizeOf240 rfl rfl rfl hil<|Zy hs (Ge (vs:=uT s) 2 rfl isAgg240 sizeOf240 rfl hil (by rw [nS hil,hsi]) rfl<|Wp 1 [] hs rfl<|O_s (Jb (args:=[_,_]) (lb:=lb1) (H1:=[]) hs rfl rfl hfn1 hbd1 hnm1 (hg1 _ s c hos hcb hs.le) fun v2 G' H' _ hR hG55 hs=>?_)))
   obtain ⟨rfl,hr55⟩:=hR
   replace hs:=hs.n rfl
   rw [← hto] at hr55
   subst hr55
   refine O_s (Sa hs zeroValue240 rfl fun b21 _ hs=>O_n (Lm hs sizeOf240 rfl rfl (vs:=[_,_,_]) rfl (rfl) sM (cs':=[_,_,_]) rfl fun _ hs =>Wp 5 [15,1,3,4,5,12,14,15,16,17,18,19,21,42,43,44,0] hs rfl ?_))
   replace hrs:=hrs.mono hG55
   refine Zy hs (Fp (a:=to) 2 rfl underlying268 zB zeroValue3 hnd rfl rfl (fun hno=>?_) (fun hyes=>?_))
   ·
    refine Wp 19 [0,17,1,3,4,5,12,14,15,16,17,18,19,21,22,42,43,44,63,0] hs rfl ?_
    have hmm:¬ st.l.length=most:=fun e=>ex_here hfull (show k<bytes.length by omega) hst2 (by rw [← hce];exact zC hto hno e)
    refine Wu 5 [] hs rfl<|Zy hs (Mz rfl rfl rfl oM<|Wp 8 [0,0] hs rfl<|O_n (Ks (a:=to) hs.f2 underlying268 zB hnd hno rfl rfl rfl fun _ hs =>Wp 4 [16,1,3,4,5,12,14,15,16,17,18,19,21,22,42,43,44,1] hs rfl<|O_s (Bw hs underlying269 sizeOf240 zeroValue240 rfl rfl dC dC rfl (cs:=[_,_,_]) rfl rfl fun v3 _ hs _=>?_)))
    obtain ⟨_,hG75,hl75,hs⟩:=hs.fixRow noM
    refine O_s (Au hs.f3 underlying269 TI240 rfl dC rfl rfl (hl75) (stC_one) oM oM fun v4 _ hs =>Wp 6 [0] hs rfl<|Zy hs (Be (k) underlying79 sizeOf3 rfl rfl rfl oM<|O_n (Bz hs.f3 sizeOf3 rfl rfl rfl oM fun _ hs =>Wp 2 [13,1,3,4,5,12,14,15,16,17,18,42,43,44] hs rfl<|Zy hs (Ya (s:=((k+1:Nat):Int)) rfl<|Wp 1 [] hs rfl ?_))))
    have hs:=hs.f9.f9.f9.f9.f9.f9.f7.f8.f8
    have hstp:=exP_new (st:=st) (b:=c) (most:=most) hto hno hmm
    replace hrs:=hrs.mono hG75
    refine Zx [1,3,4,5,12,14,15,16,17,18,42,43,44] rfl ⟨k+1,⟨st.l++[to],st.row++[st.l.length]⟩,v4,_,by omega,by rw [Bu _ _ bytes k oM,hst2,← hce,hstp],hex.new hot hno hmm,hrs,rfl,rfl,Bh (hs.wk [_,_,_,_,_,_,_,_,_]) (by rw [← Hh hex.rl oM];simp [Bl,Aad,zA,uT])⟩
   refine Wp 18 [0,17,1,3,4,5,12,14,15,16,17,18,19,21,22,42,43,44,63] hs rfl<|Zy hs (Be (k) underlying79 sizeOf3 rfl rfl rfl oM<|O_n (Bz hs.f1 sizeOf3 rfl rfl rfl oM fun _ hs =>Wp 2 [0] hs rfl<|Zy hs (Ya (s:=((k+1:Nat):Int)) rfl<|Wp 1 [] hs rfl ?_)))
   have hs:=hs.f9.f9.f9.f9.f9.f9.f9.f9.f8
   have hstp:=exP_old (st:=st) (b:=c) (most:=most) hto hyes
   refine Zx [1,3,4,5,12,14,15,16,17,18,42,43,44] rfl ⟨k+1,⟨st.l,st.row++[Bc to st.l]⟩,Vs bl st.l.length capl,_,by omega,by rw [Bu _ _ bytes k oM,hst2,← hce,hstp],hex.old,hrs,rfl,rfl,Bh (hs.wk [_,_,_,_,_,_,_,_,_]) (by rw [← Hh hex.rl oM];simp [Bl,Aad])⟩
  refine Wp 4 [0] hs rfl ?_
  obtain rfl:k=bytes.length:=by omega
  rw [Aaw,AbH,AaX] at hs
  rw [Aaj] at hst2
  obtain ⟨_,hG_hrow,hrow,hs⟩:=hs.fixRow noM
  have hrl:=hex.rl
  replace hrow:De _ (Vs b41 bytes.length bytes.length) st.row:=(show De _ _ _ from by unfold De;rw [hrl];exact hrow)
  obtain rfl:=Option.some.inj (hst2.symm.trans hfull)
  obtain ⟨hil,hsi⟩:=hex.gt
  obtain ⟨bl2,capl2,hzbl2,_⟩:=hs.rowForm 1 rfl oM
  subst hzbl2
  have hos:ok s:=by rw [← hsi];exact hex.ok _ (AaD _)
  have hlmx:=hex.le
  refine Wu 3 [257] hs rfl<|Zy hs (Ej 2 isAgg35 rfl rfl (Gu hcl)<|Wp 1 [] hs rfl<|O_s (Bw hs underlying35 sizeOf79 zeroValue79 rfl rfl dC dC rfl (cs:=[_]) rfl rfl fun v5 _ hs _=>?_))
  obtain ⟨_,hG85,hl85,hs⟩:=hs.fixRow noM
  refine O_s (Au hs.f3 underlying35 gA rfl dC rfl rfl (hl85) (Cp rfl) oM oM fun v6 _ hs =>Wp 1 [257] hs rfl<|O_n (Gc hs.f3 sizeOf35 rfl rfl (hs.f3.rowOne 1 rfl) (by rw [Cf hcl];omega) (cs':=(Co cell bytes.length v6 va)) (Ve hcl) fun _ hs =>Wp 1 [0] hs rfl<|Bg [0,1,2,3,4,5,6,7,8] hs kR ?_))
  replace hs:=hs.drew
  refine Xr [0] [258] hs rfl<|Xt 1 hs rfl (Ej 0 isAgg30 rfl rfl (Ld hcl)<|Xr [2,3,4] [] hs rfl<|Xt 5 hs rfl (Cl i underlying269 sizeOf240 rfl rfl rfl hil<|Xt 6 hs rfl (Ge (vs:=uT s) 3 rfl isAgg240 sizeOf240 rfl hil (by rw [nS hil,hsi]) rfl ?_)))
  have hle:=hs.le
  refine Xo 7 rfl (Jb (args:=[_]) (lb:=lb2) (H1:=[]) hs rfl rfl hfn2 hbd2 hnm2 (hg2 _ s hos hs.le) fun v7 G' H' _ hR hG95 hs=>?_)
  obtain ⟨rfl,rfl⟩:=hR
  replace hs:=hs.n rfl
  replace hrs:=hrs.mono (hG_hrow.trans (hG85.trans hG95))
  replace hrow:=hrow.mono (hG85.trans hG95)
  refine Ai hs hle hG95 (lSr _) ?_
  have hle:=hs.le
  refine Xo 8 rfl (Bw hs underlying30 sizeOf4 zeroValue4 rfl rfl dC dC rfl (cs:=[_]) rfl rfl fun v8 _ hs _=>?_)
  obtain ⟨_,hG96,hl96,hs⟩:=hs.fixRow noM
  replace hrs:=hrs.mono hG96
  replace hrow:=hrow.mono hG96
  refine Ai hs hle hG96 (lSr _)<|Xa 9 rfl (Au hs.f4 underlying30 Pw rfl dC rfl rfl (hl96) (Cp rfl) oM oM fun v9 _ hs =>Xa 10 rfl (S_y hs rfl (Yf 258 rfl<|Xn 11 rfl (Gc hs.f1 sizeOf30 rfl rfl (hs.f1.rowOne 1 rfl) (by rw [Cf hcl];omega) (cs':=(Co cell bytes.length v6 v9)) (Kj hcl) fun _ hs =>Xe (Zk [1,3,4,5,12,14,15,16,17] rfl<|Wu 2 [] hs rfl<|Zy hs (Ya (s:=((i+1:Nat):Int)) rfl<|Wp 1 [] hs rfl ?_))))))
  have hs:=hs.f7.f7.f7.f4.f5.f5.f7.f7
  refine Zx [1,3,4,5,12,14,15,16,17] rfl ⟨fu1,i+1,st.l,_,_,_,Vs bl2 st.l.length capl2,v6,v9,_,hrest,hex.nd,hex.ok,hex.le,by simp [hnl],by simp [hacl],by simp [hvl],by omega,Dg.snoc hrs hrow,rfl,rfl,Bh (hs.wk [_,_,_,_,_,_,_,_]) (by simp [Da])⟩
 refine Wp 3 [0] hs rfl ?_
 have hfe:=exG_end oM hg
 subst hfe
 have hs:=hs.f3
 obtain ⟨_,hG_hfn,hfn,hs⟩:=hs.fixRow noM
 have hs:=hs.f3
 obtain ⟨_,hG_hfa,hfa,hs⟩:=hs.fixRow noM
 replace hfn:=hfn.mono hG_hfa
 obtain ⟨Fn,fn,rfl,_⟩:=id hfn
 obtain ⟨Fa,fa,rfl,_⟩:=id hfa
 refine Wu 2 [] hs rfl<|Zy hs (Yk 2 rfl (Cf hcl)<|O_n (pP hs.f5 sizeOf160 rfl rfl (vs:=_) Z11 Z11 (Gj rfl rfl) fun _ hs =>Wp 2 [0] hs rfl<|As ?_))
 have hr:=hs
 refine By (vs:=[_,_]) results172 rfl ⟨Bq 0 hr isAgg160 sizeOf160 rfl (cs:=_) rfl Z11,rfl,trivial⟩ ?_
 try dsimp only [tup]
 replace hrs:=hrs.mono (hG_hfn.trans hG_hfa)
 exact hs.q ⟨_,rfl,_,_,rfl,hcl,Dg.fin hfn rfl hrs,hfa⟩
def Cg (G:Ah) (b:Nat) (cs:List Value):Prop:=∀ (i:Nat) (v:Value),cs[i]?=some v→Fc G ⟨b,i,none⟩=some v
theorem Cg.mono {G G':Ah} (h:G.le G') {b:Nat} {cs:List Value} (hc:Cg G b cs):Cg G' b cs:=fun i v hv=>Km h (hc i v hv)
theorem Cg.whole {b:Nat} {cs:List Value} (hc:Cg G b cs):∀ (j:Nat) (u:Value),cs[j]?=some u→Fc G ((⟨b,0,none⟩:Addr).add j)=some u:=fun j u hj=>by
  have h:=hc j u hj
  have h2:(⟨b,0,none⟩:Addr).add j=⟨b,j,none⟩:=by
    unfold Addr.add;split
    · next h=>rw [h]
    · simp
  rw [h2];exact h
def nT (G:Ah) (b:Nat) (t:Tb):Prop:=∃ vn va,Cg G b (Co t.cell t.cells vn va)∧t.cell.length=256∧LN G vn t.next∧Dt G va t.acc
theorem nT.mono {G G':Ah} (h:G.le G') {b:Nat} {t:Tb} (ht:nT G b t):nT G' b t:=by
  obtain ⟨vn,va,h1,h2,h3,h4⟩:=ht
  exact ⟨vn,va,h1.mono h,h2,h3.mono h,h4.mono h⟩
theorem kH {a b:List Nat} (ha:a.length=4) (hb:b.length=4):(Ef a b).length=4∧∀ w∈Ef a b,w<W64:=by
  refine ⟨Kw ha hb,fun w hw=>?_⟩
  unfold Ef at hw
  obtain ⟨i,hi,rfl⟩:=AaQ.1 hw
  rw [List.getElem_zipWith];exact Gv _ _
theorem not_wf {a:List Nat} (ha:a.length=4):(Jw a).length=4∧∀ w∈Jw a,w<W64:=by
  refine ⟨aD ha,fun w hw=>?_⟩
  unfold Jw at hw
  obtain ⟨i,hi,rfl⟩:=AaQ.1 hw
  rw [List.getElem_zipWith];exact Sf _ _
def Qk (d:Cy) (r:List Nat):Bool:=decide (r.length=d.cls.length) && r.all fun x=>decide (x<d.next.length)
theorem Rc (d:Cy):Mb d=true↔1≤d.next.length∧d.next.length≤64∧d.acc.length=d.next.length∧1≤d.cls.length∧d.cls.length≤256∧clsOk d.cls [0,0,0,0]=true∧d.next.all (Qk d)=true:=by
  unfold Mb Qk
  simp only [Aah,decide_eq_true_eq]
theorem Fz {d:Cy} (h:¬ (1≤d.next.length∧d.next.length≤64∧d.acc.length=d.next.length∧1≤d.cls.length∧d.cls.length≤256∧clsOk d.cls [0,0,0,0]=true∧d.next.all (Qk d)=true)):Mb d=false:=by
  rw [Abi];intro hv;exact h ((Rc d).1 hv)
theorem Re {l:List (List Nat)} {k:Nat} {seen:List Nat} (h:k<l.length):clsOk (l.drop k) seen=(!(decide (l[k]=[0,0,0,0])) && (decide (Ef seen l[k]=[0,0,0,0]) && clsOk (l.drop (k+1)) (Df seen l[k]))):=by
  rw [Aaq h,clsOk]
theorem eI {l:List (List Nat)} {seen:List Nat}:clsOk (l.drop l.length) seen=decide (Jw seen=[0,0,0,0]):=by rw [List.drop_length,clsOk]
theorem nU {α:Type} {p:α→Bool} {l:List α} {k:Nat} (h:k<l.length) (hp:p l[k]=false):l.all p=false:=by
  rw [Abi];intro ha
  have:=AbD.1 ha _ (AaD h)
  rw [hp] at this;cases this
theorem kI {α:Type} {p:α→Bool} {l:List α} {k:Nat} (h:k<l.length) (ha:(l.take k).all p=true) (hp:p l[k]=true):(l.take (k+1)).all p=true:=by
  rw [Aay,AaA h,List.all_append,ha];simp [hp]
theorem rR {v:Value} {d:Cy} (hd:Hm G v d) :
  Ba prog 52 [v] G [] fun r _ H'=>H'=[]∧r=.bool (Mb d):=by
 obtain ⟨vc,vn,va,rfl,hC,hN,hA⟩:=hd
 obtain ⟨Ac,cc,rfl⟩:=Bi.slice hC
 obtain ⟨An,cn,rfl⟩:=Bi.slice hN
 obtain ⟨Aa,ca,rfl,_⟩:=id hA
 refine Ba.of_T [(0,_)] func52 rfl ntmps52 sM rfl fun w0 hs=>?_
 have hC0:=hC
 have hN0:=hN
 refine Wt 2 [] hs rfl<|O_s (Sb hs rfl fun b1 _ hs=>Wp 13 [0,1,0,0] hs rfl<|Zy hs (Yc rfl (fun h15=>?_) fun h15=>?_))
 ·
  refine Wp 29 [3,1,3,38,0] hs rfl<|As<|Zz results52 rfl ?_
  exact hs.q (congrArg Value.bool (Fz oM).symm)
 refine Wp 2 [] hs rfl<|Zg hs rfl (Yc rfl (fun h18=>?_) fun h18=>?_)
 ·
  refine Wp 26 [3,1,3,38,0] hs rfl<|As<|Zz results52 rfl ?_
  exact hs.q (congrArg Value.bool (Fz oM).symm)
 refine Wp 6 [2,0] hs rfl<|Zg hs rfl (Yc rfl (fun h25=>?_) fun h25=>?_)
 ·
  refine Wp 19 [3,1,3,38,0] hs rfl<|As<|Zz results52 rfl ?_
  exact hs.q (congrArg Value.bool (Fz oM).symm)
 refine Wp 5 [0,0] hs rfl<|Zg hs rfl (Yc rfl (fun h31=>?_) fun h31=>?_)
 ·
  refine Wp 13 [3,1,3,38,0] hs rfl<|As<|Zz results52 rfl ?_
  exact hs.q (congrArg Value.bool (Fz oM).symm)
 refine Wp 5 [0,0] hs rfl<|Zg hs rfl (Yc rfl (fun h37=>?_) fun h37=>?_)
 ·
  refine Wp 7 [3,1,3,38,0] hs rfl<|As<|Zz results52 rfl ?_
  exact hs.q (congrArg Value.bool (Fz oM).symm)
 refine Wp 6 [3,1,3,38] hs rfl<|O_s (Bs hs zeroValue86 (cs:=(List.map Bb [0,0,0,0])) rfl fun b4 _ hs =>Wp 9 [0,0,1,0] hs rfl ?_)
 have hs:=hs.f1.f1
 refine Zl [1,3,4,40,41,42] (fun m E w=>∃ (k:Nat) (seen:List Nat) (G2:Ah),k≤d.cls.length∧clsOk d.cls [0,0,0,0]=clsOk (d.cls.drop k) seen∧seen.length=4∧(∀ w∈seen,w<W64)∧m=d.cls.length-k∧E=⟨[],[(1,Vp b1),(3,Vi ((d.next.length:Nat):Int)),(4,Vp b4),(40,.slice Ac d.cls.length cc),(41,Vi ((d.cls.length:Nat):Int)),(42,Vi (k:Int))]⟩∧St ⟨w0,G,Bj []⟩ G2 [.blk b4 86 (List.map Bb seen),.blk b1 37 [.slice Ac d.cls.length cc,.slice An d.next.length cn,.slice Aa d.acc.length ca]] w) rfl (⟨0,[0,0,0,0],_,by omega,rfl,rfl,by decide,rfl,rfl,hs⟩) fun m E w hI=>?_
 obtain ⟨k,seen,G2,hk,hcs,hs4,hs64,rfl,rfl,hs⟩:=hI
 have hC:=hC0.mono hs.le
 have hN:=hN0.mono hs.le
 refine Wt 2 [] hs rfl<|Zy hs (Yc rfl (fun h43=>?_) fun h43=>?_)
 ·
  refine Wp 8 [0] hs rfl<|Zy hs (Ca hC k underlying28 sizeOf86 rfl rfl rfl oM fun p44 c44 hp44 hc44 hR44=>?_)
  obtain ⟨c,hce⟩:∃ c,c=d.cls[k]'oM:=⟨_,rfl⟩
  rw [← hce] at hR44
  obtain ⟨rfl,hc4,hc64⟩:=hR44
  refine Zy hs (Db (vs:=List.map Bb c) isAgg86 sizeOf86 rfl hp44 hc44<|O_s (Bs hs zeroValue86 (cs:=(List.map Bb [0,0,0,0])) rfl fun b6 _ hs =>O_n (Sw hs rfl (vs:=(List.map Bb c)) dB dB (Dk _) fun _ hs=>Wp 4 [0] hs rfl<|Zy hs (Yk 0 rfl dB<|Zy hs (Dr underlying86 sizeOf84 zeroValue86 rfl rfl (cs:=[_,_,_,_]) rfl<|Zy hs (Y_eqlWS (a:=c) (b:=[0,0,0,0]) underlying86 sizeOf84 isAgg84 underlying84 rfl rfl rfl (hc4) rfl (hc64) dC (fun h48=>?_) (fun h48=>?_)))))))
  ·
   refine Wp 13 [0,0] hs rfl<|As<|Zz results52 rfl ?_
   exact hs.q (congrArg Value.bool (Fz (by rw [hcs,Re oM,← hce];simp_all)).symm)
  refine Wp 1 [] hs rfl<|Zg hs rfl (Yk 1 rfl dB<|Zg hs rfl (Yk 0 rfl dB<|Dh 49 rfl rfl (Sp (Jl hs4 hc4) hs rfl fun v1 G' _ hR hG52 hs=>?_)))
  obtain rfl:=hR
  refine Zg hs rfl (Dr underlying86 sizeOf84 zeroValue86 rfl rfl (cs:=[_,_,_,_]) rfl<|Zg hs rfl (Nc (a:=(Ef seen c)) (b:=[0,0,0,0]) underlying86 sizeOf84 isAgg84 underlying84 rfl rfl rfl (Kw hs4 hc4) rfl ((kH hs4 hc4).2) dC (fun h54=>?_) (fun h54=>?_)))
  ·
   refine Wp 7 [0,0] hs rfl<|As<|Zz results52 rfl ?_
   exact hs.q (congrArg Value.bool (Fz (by rw [hcs,Re oM,← hce];simp_all)).symm)
  refine Wp 5 [0] hs rfl<|Zy hs (Yk 1 rfl dB<|Zy hs (Yk 0 rfl dB<|O_s (Sp (Gf hs4 hc4) hs rfl fun v2 G' _ hR hG58 hs=>?_)))
  obtain rfl:=hR
  refine O_n (Sw hs.f1 rfl (vs:=(List.map Bb (Df seen c))) dB dB (Dk _) fun _ hs=>Wp 2 [0] hs rfl<|Zy hs (Ya (s:=((k+1:Nat):Int)) rfl<|Wp 1 [] hs rfl ?_))
  have hs:=hs.f2.f1
  refine Zx [1,3,4,40,41,42] rfl ⟨k+1,Df seen c,_,by omega,by rw [hcs,Re oM,← hce];simp_all,Kx hs4 hc4,(Oy hs4 hc4).2,rfl,rfl,hs.wk [_,_]⟩
 refine Wp 4 [0] hs rfl<|Wu 3 [] hs rfl<|Zy hs (Yk 0 rfl dB<|O_s (Sp (yR hs4) hs rfl fun v3 G' _ hR hG61 hs=>?_))
 obtain rfl:=hR
 refine Zy hs (Dr underlying86 sizeOf84 zeroValue86 rfl rfl (cs:=[_,_,_,_]) rfl ?_)
 replace hC:=hC.mono hG61
 replace hN:=hN.mono hG61
 refine Zy hs (Nc (a:=(Jw seen)) (b:=[0,0,0,0]) underlying86 sizeOf84 isAgg84 underlying84 rfl rfl rfl (aD hs4) rfl ((not_wf hs4).2) dC (fun h63=>?_) (fun h63=>?_))
 ·
  refine Wp 6 [0,0] hs rfl<|As<|Zz results52 rfl ?_
  exact hs.q (congrArg Value.bool (Fz (by rw [hcs,show k=d.cls.length by omega,eI];simp_all)).symm)
 refine Wp 11 [0,1,1,0] hs rfl ?_
 have hs:=hs.f1
 have hcok:clsOk d.cls [0,0,0,0]=true:=by rw [hcs,show k=d.cls.length by omega,eI];simp_all
 refine Zl [1,3,65,66,67] (fun m E w=>∃ (k:Nat) (G2:Ah),k≤d.next.length∧(d.next.take k).all (Qk d)=true∧m=d.next.length-k∧E=⟨[],[(1,Vp b1),(3,Vi ((d.next.length:Nat):Int)),(65,.slice An d.next.length cn),(66,Vi ((d.next.length:Nat):Int)),(67,Vi (k:Int))]⟩∧St ⟨w0,G,Bj []⟩ G2 [.blk b1 37 [.slice Ac d.cls.length cc,.slice An d.next.length cn,.slice Aa d.acc.length ca]] w) rfl (⟨0,_,by omega,by simp,rfl,rfl,hs.wk [_]⟩) fun m E w hI=>?_
 obtain ⟨k,G2,hk,hra,rfl,rfl,hs⟩:=hI
 have hC:=hC0.mono hs.le
 have hN:=hN0.mono hs.le
 refine Wt 2 [] hs rfl<|Zy hs (Yc rfl (fun h68=>?_) fun h68=>?_)
 ·
  refine Wp 8 [0] hs rfl<|Zy hs (Ca hN k underlying35 sizeOf79 rfl rfl rfl oM fun p69 c69 hp69 hc69 hR69=>?_)
  obtain ⟨rr,herr⟩:∃ r,r=d.next[k]'oM:=⟨_,rfl⟩
  rw [← herr] at hR69
  obtain ⟨u69,rfl,hrr⟩:=hR69
  obtain ⟨A69,c69,rfl,_⟩:=id hrr
  refine Zy hs (Yg rfl (hp69 0 (.slice A69 rr.length c69) rfl)<|Wp 10 [0,0,0] hs rfl<|Zy hs (Yc rfl (fun h76=>?_) fun h76=>?_))
  ·
   refine Wp 6 [0,0] hs rfl<|As<|Zz results52 rfl ?_
   exact hs.q (congrArg Value.bool (Fz (by rw [nU (k:=k) oM (show Qk d _=false from by rw [← herr];unfold Qk;rw [decide_eq_false oM];rfl)];simp)).symm)
  refine Wp 9 [0,0] hs rfl<|Zl [1,3,65,66,67,77,78,79] (fun m E w=>∃ (j:Nat) (G2:Ah),j≤rr.length∧(rr.take j).all (fun x=>decide (x<d.next.length))=true∧De G2 (.slice A69 rr.length c69) rr∧m=rr.length-j∧E=⟨[],[(1,Vp b1),(3,Vi ((d.next.length:Nat):Int)),(65,.slice An d.next.length cn),(66,Vi ((d.next.length:Nat):Int)),(67,Vi (k:Int)),(77,.slice A69 rr.length c69),(78,Vi ((rr.length:Nat):Int)),(79,Vi (j:Int))]⟩∧St ⟨w0,G,Bj []⟩ G2 [.blk b1 37 [.slice Ac d.cls.length cc,.slice An d.next.length cn,.slice Aa d.acc.length ca]] w) rfl (⟨0,_,by omega,by simp,hrr,rfl,rfl,hs⟩) fun m E w hI=>?_
  obtain ⟨j,G2,hj,hja,hrr,rfl,rfl,hs⟩:=hI
  have hC:=hC0.mono hs.le
  have hN:=hN0.mono hs.le
  refine Wt 2 [] hs rfl<|Zy hs (Yc rfl (fun h80=>?_) fun h80=>?_)
  ·
   refine Wp 8 [0] hs rfl<|Zy hs (Ct hrr j underlying79 sizeOf3 rfl rfl rfl oM fun p81 hp81=>?_)
   obtain ⟨x,hxe⟩:∃ x,x=rr[j]'oM:=⟨_,rfl⟩
   rw [← hxe] at hp81
   refine Zy hs (Yg rfl (hp81)<|Wp 5 [0] hs rfl<|Zy hs (Mz rfl rfl rfl oM<|Wp 3 [] hs rfl<|Zg hs rfl (Yc rfl (fun h88=>?_) fun h88=>?_)))
   ·
    refine Wp 7 [0,0] hs rfl<|As<|Zz results52 rfl ?_
    exact hs.q (congrArg Value.bool (Fz (by rw [nU (k:=k) oM (show Qk d _=false from by rw [← herr];unfold Qk;rw [nU (p:=fun x=>decide (x<d.next.length)) (l:=rr) (k:=j) oM (decide_eq_false oM),Bool.and_false])];simp)).symm)
   refine Wp 5 [0] hs rfl<|Zy hs (Ya (s:=((j+1:Nat):Int)) rfl<|Wp 1 [] hs rfl<|Zx [1,3,65,66,67,77,78,79] rfl ⟨j+1,_,by omega,kI oM hja (by rw [← hxe];exact decide_eq_true oM),hrr,rfl,rfl,hs⟩)
  refine Wp 4 [0] hs rfl ?_
  refine Zr<|Zy hs (Ya (s:=((k+1:Nat):Int)) rfl<|Wp 1 [] hs rfl ?_)
  have hrk:Qk d rr=true:=by unfold Qk;rw [show j=rr.length by omega,Aaj] at hja;rw [hja,decide_eq_true oM];rfl
  refine Zx [1,3,65,66,67] rfl ⟨k+1,_,by omega,kI oM hra (by rw [← herr];exact hrk),rfl,rfl,hs⟩
 refine Wp 4 [0] hs rfl<|Wu 4 [0] hs rfl<|As<|Zz results52 rfl ?_
 exact hs.q (congrArg Value.bool ((Rc d).2 ⟨by omega,by omega,by omega,by omega,by omega,hcok,by rw [show k=d.next.length by omega,Aaj] at hra;exact hra⟩).symm)
theorem zD {v:Value} {d:Cy} (hd:Hm G v d) (hv:Mb d=true) :
    Ba prog 52 [v] G [] fun r _ H'=>H'=[]∧r=.bool true:=hv▸rR hd
theorem kJ (d:Cy):(Av d).cell.length=256:=by rw [Xj];exact Ha _ _
theorem Xk {v:Value} {d D:Cy} (hd:Hm G v d) (hv:Mb d=true) (hok:(Av d).ok) (hD:Eu (Av d)=some D) (hT:Tab G) :
  Ba prog 57 [v] G [] fun r G' H'=>H'=[]∧∃ vd,r=.tuple #[vd,Vi 0]∧Hm G' vd D:=by
 obtain ⟨vc,vn,va,rfl,hC,hN,hA⟩:=hd
 obtain ⟨Ac,cc,rfl⟩:=Bi.slice hC
 obtain ⟨An,cn,rfl⟩:=Bi.slice hN
 obtain ⟨Aa,ca,rfl,_⟩:=id hA
 have hcd:=((Rc d).1 hv).2.2.2.2.1
 obtain ⟨X,hX⟩:∃ X,X=Av d:=⟨_,rfl⟩
 rw [← hX] at hok hD
 refine Ba.of_T [(0,_)] func57 rfl ntmps57 sM rfl fun w0 hs=>?_
 have hC0:=hC
 have hN0:=hN
 have hA0:=hA
 have hT0:=hT
 refine Wt 2 [] hs rfl<|O_s (Sb hs rfl fun b1 _ hs=>O_s (Sa hs zeroValue37 rfl fun b2 _ hs=>Wp 6 [0,1] hs rfl<|O_s (Sp (zD ⟨_,_,_,rfl,hC,hN,hA⟩ hv) hs rfl fun v1 G' _ hR hG5 hs=>?_)))
 obtain rfl:=hR
 refine Wp 7 [0,1] hs rfl ?_
 replace hC:=hC.mono hG5
 replace hN:=hN.mono hG5
 replace hA:=hA.mono hG5
 replace hT:=hT.mono hG5
 refine O_s (Sp (Le ⟨_,_,_,rfl,hC,hN,hA⟩ hcd hT) hs rfl fun v2 G' _ h9 hG9 hs=>?_)
 rw [← hX] at h9
 obtain ⟨u9,w9,rfl,hc9,hn9,ha9⟩:=h9
 obtain ⟨N9,n9,rfl⟩:=Bi.slice hn9
 obtain ⟨A9,a9,rfl,_⟩:=id ha9
 refine O_s (Sp (canon_ok ⟨_,_,rfl,hc9,hn9,ha9⟩ hok hD) hs rfl fun v3 G' _ hz hG10 hs=>?_)
 obtain ⟨zc,zn,za,rfl,hzC,hzN,hzA⟩:=hz
 obtain ⟨Cz,cz,rfl⟩:=Bi.slice hzC
 obtain ⟨Nz,nz,rfl⟩:=Bi.slice hzN
 obtain ⟨Az,az,rfl,_⟩:=id hzA
 refine O_n (Sg hs rfl (rfl) fun _ hs=>Wp 2 [0] hs rfl<|As ?_)
 have hr:=hs
 refine By (vs:=[_,_]) results57 rfl ⟨Bq 0 hr isAgg37 sizeOf37 rfl (cs:=[_,_,_]) rfl rfl,rfl,trivial⟩ ?_
 try dsimp only [tup]
 exact hs.q ⟨_,rfl,_,_,_,rfl,hzC,hzN,hzA⟩
theorem zF {lp b:Nat} {c:List Nat} {H0:List Res} {J:Ah→List Res→Prop} {a:UInt8} (hcb:Qh G b c) (hc:c.length=4) (hw:∀ w∈c,w<W64) (hT:Tab G) (ha:(Br c)[0]?=some a)
  (hY:∀ G',G.le G'→Fl prog lp [.int .u8 (a.toNat:Int)] G' H0 fun r G'' H''=>r=Vf∧J G'' H'') :
  Ba prog 167 [.func (.yield lp) #[] #[],Vp b] G H0 fun _ G' H'=>J G' H':=by
 refine Ba.of_T [(0,_),(1,_)] func167 rfl ntmps167 sM rfl fun w0 hs=>?_
 have hcb0:=hcb
 have hT0:=hT
 refine Wt 2 [] hs rfl<|Zy hs (Db (vs:=List.map Bb c) isAgg86 sizeOf86 rfl hcb.whole (by rw [AaC,hc])<|Wp 2 [0] hs rfl<|Zl [0,5,6] (fun m E w=>∃ (k:Nat) (G':Ah),k≤4∧Br c=Ma k (c.drop k)∧m=4-k∧E=⟨[],[(0,.func (.yield lp) #[] #[]),(5,(Ig c)),(6,Vi (k:Int))]⟩∧St ⟨w0,G,Bj H0⟩ G' H0 w) rfl (⟨0,_,by omega,rfl,rfl,rfl,hs⟩) fun m E w hI=>?_)
 obtain ⟨k,G',hk,hd,rfl,rfl,hs⟩:=hI
 have hcb:=hcb0.mono hs.le
 have hT:=hT0.mono hs.le
 refine Wt 2 [] hs rfl<|Zy hs (Yc rfl (fun h7=>?_) fun h7=>?_)
 ·
  refine Wp 9 [0] hs rfl<|Zy hs (Sh (vs:=List.map Bb c) (v:=Bb c[k]) k underlying86 isAgg84 sizeOf84 rfl rfl rfl oM (fJ c k oM)<|Wp 3 [0] hs rfl<|Kd (fB 1 (L:=[(0,_),(3,_),(4,_),(5,_),(6,_)]) ⟨rfl,rfl,rfl,rfl,rfl,trivial⟩ (Yz ?_)))
  have hwk:=hw c[k] (AaD (show k<c.length by omega))
  rw [Aaq (show k<c.length by omega),Ma] at hd
  generalize hwd:c[k]=wd at hd hwk ⊢
  refine Wt 4 [] hs rfl<|Zy hs (Yc rfl (fun h11=>?_) fun h11=>?_)
  ·
   rw [show Oc k wd wd=UInt8.ofNat (64*k+nA wd)::Oc k (wd-1) (Dn wd (Im wd 1)) from by obtain ⟨f,rfl⟩:∃ q,wd=q+1:=⟨wd-1,by omega⟩;rw [Oc,if_neg oM];rfl,Abc] at hd
   have hst:UInt8.ofNat (64*k+nA wd)=a:=by rw [hd] at ha;simpa using ha
   have htz:=xA wd
   refine Wp 9 [0] hs rfl<|Zy hs (iG (c:=((64*k:Nat):Int)) rfl rfl oM oM<|Wp 1 [] hs rfl<|O_s (Et (H1:=[]) (H:=H0) hs rfl func168 rfl kR (tz_ok hT) fun v1 G' H' _ hR hG16 hs=>?_))
   obtain ⟨rfl,rfl⟩:=hR
   replace hs:St _ _ H0 _:=hs
   refine Zy hs (Ya (s:=((64*k+nA wd:Nat):Int)) rfl<|Zy hs (Dj underlying3 underlying5 (c:=((UInt8.ofNat (64*k+nA wd)).toNat:Int)) rfl (Dx _)<|O_s (pL (H1:=H0) (H:=[]) (by rw [AaX];exact hs) rfl rfl (hst▸hY _ hs.le) fun v G'' H'' w' hR hG19 hs=>?_)))
   obtain ⟨rfl,hJ⟩:=hR
   rw [AaX] at hs
   refine Wp 3 [0] hs rfl<|As ?_
   refine By (vs:=[]) results167 rfl trivial ?_
   try dsimp only [tup]
   exact ⟨_,_,hs,hJ⟩
  refine Wp 3 [0] hs rfl ?_
  refine Zr<|Zy hs (Ya (s:=((k+1:Nat):Int)) rfl<|Wp 1 [] hs rfl ?_)
  obtain rfl:wd=0:=by omega
  rw [dO,AbA] at hd
  refine Zx [0,5,6] rfl ⟨k+1,_,by omega,hd,rfl,rfl,hs⟩
 refine Wp 4 [0] hs rfl ?_
 try dsimp only [Ex.At,Ex.sqs,Ex.sq,Ex.lp,Ex.bk]
 try rw [show Nat.beq _ _=true from Nat.beq_refl _,cond_true]
 refine Pl (vs:=[]) results167 rfl trivial ?_
 try dsimp only [tup]
 obtain rfl:k=4:=by omega
 rw [AbU (by omega:c.length≤4)] at hd
 rw [hd] at ha;cases ha
theorem aZ {c:List Nat} {a:UInt8} (hc:c.length=4) (hw:∀ w∈c,w<W64) (hT:Tab G) (ha:(Br c)[0]?=some a) :
  Ba prog 71 [Ig c] G [] fun r _ H'=>H'=[]∧r=Vi (a.toNat:Int):=by
 refine Ba.of_TM [(0,_)] func71 rfl ntmps71 sM rfl fun w0 hs=>?_
 have hT0:=hT
 refine Wt 2 [] hs rfl<|O_s (Fj hs rfl (cs:=(List.map Bb c)) rfl fun b1 _ hs =>O_s (Sa hs zeroValue3 rfl fun b2 _ hs=>Wp 4 [0] hs rfl<|Zy hs (Yk 1 rfl (by rw [AaC,hc])<|O_s (Sp (rB hc) hs rfl fun v1 G' _ hR hG5 hs=>?_))))
 obtain ⟨b,rfl,hcb⟩:=hR
 refine Wp 1 [0] hs rfl ?_
 have hs:=hs.f1.f1
 refine Wu 1 [] hs rfl<|Rz (H1:=[_,_]) (H:=[]) (R:=fun j G' H2=>j=some .ret∧H2=[.blk b2 3 [Vi (a.toNat:Int)],.blk b1 86 (List.map Bb c)]) hs rfl func167 rfl kR ?hit ?done
 replace hT:=hT.mono hG5
 case hit =>
  intro lp D rec hp ha2 hbd hst hpe hAg
  obtain ⟨state,pending,fn',tmps,params,assign,body,defers⟩:=rec
  dsimp only at hp ha2 hbd hst hpe hAg
  subst hst hpe
  refine Ba.mono (zF (lp:=lp) (a:=a) (J:=fun G' H'=>H'=[.obj lp (.loop { state:=.done,pending:=some .ret,fn:=fn',tmps:=tmps,params:=params,assign:=assign,body:=body,defers:=defers }),.obj D (.deferred (some [])),.blk b2 3 [Vi (a.toNat:Int)],.blk b1 86 (List.map Bb c)]) hcb hc hw hT ha ?round) ?fin
  case fin =>
   rintro r G' H' _ rfl
   exact ⟨_,_,_,rfl,by simp,rfl,rfl⟩
  intro G' hle
  subst hp ha2 hbd
  refine Fl.of_TX hAg rfl rfl sM rfl fun w1 hs =>Wt 2 [] hs rfl<|Cr ⟨hs,fun w2 hs=>?_⟩
  refine Wt 4 [] hs rfl<|Zy hs (Dj underlying5 underlying3 (c:=(a.toNat:Int)) rfl (iI a)<|O_n (Sd hs.f2 rfl rfl fun _ hs=>Wp 1 [0] hs rfl<|As ?_))
  have hs:=hs.f3.f1.f3.f3
  exact ⟨_,_,hs,rfl,rfl⟩
 case done =>
  rintro lp D o' j G' H2 w' ⟨rfl,rfl⟩ hle hs
  refine As<|pN hs (vs:=[_]) results71 rfl (fun _ hs=>⟨⟨Bt 1 hs isAgg3 rfl rfl,trivial⟩,?_⟩)
  try dsimp only [tup]
  exact hs.q rfl
theorem min1_ok {x y:Nat} :
  Ba prog 165 [Bb x,Bb y] G [] fun r _ H'=>H'=[]∧r=Bb (Dn x (Kr 18446744073709551615 y)):=by
 refine Ba.of_T [(0,_),(1,_)] func165 rfl ntmps165 sM rfl fun w0 hs =>Wt 8 [0] hs rfl<|Zy hs (mW rfl rfl<|Wp 2 [0] hs rfl<|As<|Zz results165 rfl ?_)
 exact hs.q rfl
def Ka (a b:List Nat):List Nat:=List.zipWith (fun x y=>Dn x (Kr 18446744073709551615 y)) a b
theorem Rg {a b:List Nat} (h:a.length=4) (h2:b.length=4):(Ka a b).length=4:=by unfold Ka;rw [Abw];omega
theorem zG {a b:List Nat} (ha:a.length=4) (hb:b.length=4) :
  Ba prog 126 [Ig a,Ig b] G [] fun r _ H'=>H'=[]∧r=Ig (Ka a b):=by
 have hn:=Rg ha hb
 refine Ba.of_T [(0,_),(1,_)] func126 rfl ntmps126 sM rfl fun w0 hs =>Wt 2 [] hs rfl<|O_s (Fj hs rfl (cs:=(List.map Bb a)) rfl fun b2 _ hs =>O_s (Fj hs rfl (cs:=(List.map Bb b)) rfl fun b3 _ hs =>O_s (Bs hs zeroValue86 (cs:=(List.map Bb [0,0,0,0])) rfl fun b4 _ hs =>Wp 3 [0] hs rfl<|Zy hs (Yk 2 rfl Ph<|Zy hs (Yk 1 rfl Ph<|O_s (Sp (Ta ha hb func165 rfl kR (fun _ _ _=>min1_ok)) hs rfl fun v1 G' _ hR hG7 hs=>?_))))))
 obtain rfl:=hR
 refine O_n (Sw hs rfl (vs:=(List.map Bb (Ka a b))) Ph Ph (Dk _) fun _ hs=>Wp 1 [0] hs rfl<|As ?_)
 have hr:=hs
 refine By (vs:=[_]) results126 rfl ⟨Bq 0 hr isAgg86 sizeOf86 rfl (cs:=(List.map Bb (Ka a b))) rfl Ph,trivial⟩ ?_
 try dsimp only [tup]
 exact hs.q rfl
theorem PL240:places prog 240=some [(0,1),(1,1),(2,1)]:=by kernel_rfl
theorem Cn7.TOk.tb {t:Tb} (h:Cn7.TOk t) (h5:t.next.length≤5000):t.ok:=⟨h.n1,h5,h.al,h.cc,h.row,h.cell⟩
theorem Oz {v:Value} {d:Cy} (hd:Hm G v d) (hk:Cn7.DOk d) (h64:d.next.length≤64) :
    Ba prog 52 [v] G [] fun r _ H'=>H'=[]∧r=Vt:=zD hd (Cn7.validD_of hk h64)
theorem kK {d:Tb} {q k:Nat} {w:List UInt8} (h:k<w.length):Cn7.aft d q (w.take (k+1))=Cn7.step d (Cn7.aft d q (w.take k)) w[k].toNat:=Bu _ _ _ _ h
theorem lb_all {d:Tb} {q:Nat} (w:List UInt8):Cn7.lb d q w=d.acc.getD (Cn7.aft d q (w.take w.length)) false:=by rw [Aaj];exact Cn7.lb_end w q
theorem Rh {v vw:Value} {d:Cy} {wd:List UInt8} (hd:Hm G v d) (hk:Cn7.DOk d) (h64:d.next.length≤64) (hw:Bd G vw wd) (hwl:wd.length≤1000000000) (hT:Tab G) :
  Ba prog 36 [v,vw] G [] fun r _ H'=>H'=[]∧r=.bool (Cn7.lb (Av d) 0 wd):=by
 obtain ⟨vc,vn,va,rfl,hC,hN,hA⟩:=hd
 obtain ⟨Ac,cc,rfl⟩:=Bi.slice hC
 obtain ⟨An,cn,rfl⟩:=Bi.slice hN
 obtain ⟨Aa,ca,rfl,_⟩:=id hA
 obtain ⟨Aw,cw,rfl,_⟩:=id hw
 have htok:=Cn7.tab_ok hk
 obtain ⟨t,ht⟩:∃ X,X=Av d:=⟨_,rfl⟩
 rw [← ht] at htok ⊢
 have hal:=htok.al
 have hn1:=htok.n1
 refine Ba.of_T [(0,_),(1,_)] func36 rfl ntmps36 sM rfl fun w0 hs=>?_
 have hC0:=hC
 have hN0:=hN
 have hA0:=hA
 have hw0:=hw
 have hT0:=hT
 refine Wt 2 [] hs rfl<|O_s (Sb hs rfl fun b2 _ hs=>Wp 6 [0,0] hs rfl<|O_s (Sp (Oz ⟨_,_,_,rfl,hC,hN,hA⟩ hk h64) hs rfl fun v1 G' _ hR hG10 hs=>?_))
 obtain rfl:=hR
 refine Wp 7 [0,0] hs rfl ?_
 replace hC:=hC.mono hG10
 replace hN:=hN.mono hG10
 replace hA:=hA.mono hG10
 replace hT:=hT.mono hG10
 refine O_s (Sp (Le ⟨_,_,_,rfl,hC,hN,hA⟩ hk.k2 hT) hs rfl fun v2 G' _ h13 hG13 hs=>?_)
 rw [← ht] at h13
 obtain ⟨u13,w13,rfl,hc13,hn13,ha13⟩:=h13
 obtain ⟨N13,n13,rfl⟩:=Bi.slice hn13
 obtain ⟨A13,a13,rfl,_⟩:=id ha13
 refine O_s (Bs hs zeroValue160 (cs:=(Co (List.replicate 256 0) 0 (Vn) (Vn))) rfl fun b5 _ hs =>O_n (Sw hs rfl Z25 Z25 (Gj rfl rfl) fun _ hs=>Wp 12 [0,0,0] hs rfl ?_))
 have hs:=hs.f1.f1
 obtain ⟨Gp0,hGp⟩:=hs.name
 subst hGp
 have hn13_0:=hn13
 have ha13_0:=ha13
 refine Zl [5,6,14,15,16] (fun m E w=>∃ (k s:Nat) (G2:Ah),Cu Gp0 G2∧k≤wd.length∧s=Cn7.aft t 0 (wd.take k)∧s<t.next.length∧m=wd.length-k∧E=⟨[],[(5,Vp b5),(6,Vi (s:Int)),(14,.slice Aw wd.length cw),(15,Vi ((wd.length:Nat):Int)),(16,Vi (k:Int))]⟩∧St ⟨w0,G,Bj []⟩ G2 [.blk b5 160 (Co t.cell t.cells (.slice N13 t.next.length n13) (.slice A13 t.acc.length a13)),.blk b2 37 [.slice Ac d.cls.length cc,.slice An d.next.length cn,.slice Aa d.acc.length ca]] w) rfl (⟨0,0,_,Cu.refl _,by omega,rfl,by omega,rfl,rfl,hs⟩) fun m E w hI=>?_
 obtain ⟨k,s,G2,hlg0,hk9,hse,hsN,rfl,rfl,hs⟩:=hI
 have hn13:=hn13_0.mono hlg0
 have ha13:=ha13_0.mono hlg0
 replace hw:=hw.mono (hG10.trans hG13)
 have hw:=hw0.mono hs.le
 refine Wt 2 [] hs rfl<|Zy hs (Yc rfl (fun h17=>?_) fun h17=>?_)
 ·
  refine Wp 8 [0] hs rfl<|Zy hs (Ek hw k underlying22 sizeOf5 rfl rfl rfl oM fun p18 hp18=>?_)
  obtain ⟨x,hx⟩:∃ z,z=wd[k]'oM:=⟨_,rfl⟩
  rw [← hx] at hp18
  obtain ⟨c,hce⟩:∃ z,z=t.cell.getD x.toNat 0:=⟨_,rfl⟩
  have hcc:c<t.cells:=by rw [hce];exact htok.cellAt x.toNat_lt
  refine Zy hs (Yg rfl (hp18)<|Wp 2 [0] hs rfl<|Bg [0,1,2,3,4,5,6,7,8,9,10] hs kR ?_)
  replace hs:=hs.drew
  refine Xr [0] [257] hs rfl<|Xt 1 hs rfl (Ej 0 isAgg35 rfl rfl (Gu hc13)<|Xr [2] [] hs rfl<|Xt 3 hs rfl (Ca hn13 s underlying35 sizeOf79 rfl rfl rfl oM fun p23 c23 hp23 hc23 hR23=>?_))
  obtain ⟨rr,herr⟩:∃ r,r=t.next[s]'oM:=⟨_,rfl⟩
  rw [← herr] at hR23
  obtain ⟨u23,rfl,hrr⟩:=hR23
  obtain ⟨A23,c23,rfl,_⟩:=id hrr
  have hlrr:rr.length=t.cells∧∀ z9∈rr,z9<t.next.length:=htok.row rr vW
  refine Xt 4 hs rfl (Yg rfl (hp23 0 _ rfl)<|Xr [5,6] [0] hs rfl<|Xt 7 hs rfl (Bp (x.toNat) underlying80 sizeOf3 rfl rfl rfl (x.toNat_lt)<|Xt 8 hs rfl (Ej 0 isAgg3 rfl rfl (show (Co t.cell t.cells (.slice N13 t.next.length n13) (.slice A13 t.acc.length a13))[x.toNat]?=some (Bl c) from by rw [hce];exact Qy hc13 x.toNat_lt)<|Xt 9 hs rfl (Ct hrr c underlying79 sizeOf3 rfl rfl rfl oM fun p29 hp29=>?_))))
  obtain ⟨z,hze⟩:∃ z,z=rr[c]'oM:=⟨_,rfl⟩
  rw [← hze] at hp29
  have hzN:z<t.next.length:=hlrr.2 z Z49
  refine Xt 10 hs rfl (Yg rfl (hp29)<|Xa 11 rfl (S_y hs rfl (Yq rfl<|Xe (Zk [5,6,14,15,16] rfl ?_))))
  refine Zr<|Zy hs (Ya (s:=((k+1:Nat):Int)) rfl<|Wp 1 [] hs rfl ?_)
  have hst:Cn7.step t s x.toNat=z:=by unfold Cn7.step;rw [← hce,Qj oM Z61];simp only [← herr];exact hze.symm
  refine Zx [5,6,14,15,16] rfl ⟨k+1,z,_,hlg0,by omega,by rw [kK oM,← hse,← hx,hst],hzN,rfl,rfl,hs⟩
 refine Wp 4 [0] hs rfl<|Wu 3 [258] hs rfl<|Zy hs (Ej 0 isAgg30 rfl rfl (Ld hc13)<|Wp 1 [] hs rfl<|Zy hs (Ee s underlying30 sizeOf4 ha13 rfl rfl rfl (Dm oM) fun p35 hp35 =>Zy hs (Yg rfl (hp35)<|Wp 2 [0] hs rfl<|As<|Zz results36 rfl ?_)))
 obtain rfl:k=wd.length:=by omega
 exact hs.q (congrArg Value.bool (by rw [lb_all,← hse,Bn oM]))
theorem pro1_ok {bx by' c:Nat} {x y:Tb} {a:Cs} (htx:nT G bx x) (hty:nT G by' y) (hx:Cn7.TOk x) (hy:Cn7.TOk y) (hc:c<256) (hp:a.p<x.next.length) (hq:a.q<y.next.length) :
  Ba prog 171 [.agg #[Vi (a.p:Int),Vi (a.q:Int),.int .u64 (a.s:Int)],Vi (c:Int),Vp bx,.pointer (some ⟨by',0,none⟩)] G [] fun r _ H'=>H'=[]∧r=stK (Wf x y a c):=by
 obtain ⟨vn,va,hB,hcl,hN,hA⟩:=htx
 obtain ⟨An,cn,rfl⟩:=Bi.slice hN
 obtain ⟨Aa,ca,rfl,_⟩:=id hA
 obtain ⟨wn,wa,hB2,hcy,hN2,hA2⟩:=hty
 obtain ⟨Ny,ny,rfl⟩:=Bi.slice hN2
 obtain ⟨Ay,ay,rfl,_⟩:=id hA2
 obtain ⟨cx,hcx⟩:∃ z,z=x.cell.getD c 0:=⟨_,rfl⟩
 have hcxx:cx<x.cells:=by rw [hcx];exact hx.cellAt hc
 obtain ⟨cy,hcy2⟩:∃ z,z=y.cell.getD c 0:=⟨_,rfl⟩
 have hcyy:cy<y.cells:=by rw [hcy2];exact hy.cellAt hc
 obtain ⟨tok,htok⟩:∃ z,z=hx:=⟨_,rfl⟩
 refine Ba.of_T [(0,_),(1,_),(2,_),(3,_)] func171 rfl ntmps171 sM rfl fun w0 hs=>?_
 have hB0:=hB
 have hN0:=hN
 have hA0:=hA
 have hB20:=hB2
 have hN20:=hN2
 have hA20:=hA2
 refine Wt 2 [] hs rfl<|O_s (Sb hs rfl fun b4 _ hs=>O_s (Sa hs zeroValue240 rfl fun b6 _ hs=>Wp 2 [0] hs rfl<|Bg [0,1,2,3,4,5,6,7,8,9,10,11,12,13,14,15,16,17,18,19,20,21,22,23,24] hs kR ?_))
 replace hs:=hs.drew
 refine Xr [0] [257] hs rfl<|Xt 1 hs rfl (Yg rfl (hB 257 _ (Gu hcl))<|Xr [2,3] [0,1] hs rfl<|Xt 4 hs rfl (Ca hN a.p underlying35 sizeOf79 rfl rfl rfl oM fun p11 c11 hp11 hc11 hR11=>?_))
 have hxok:=hx
 obtain ⟨rr,herr⟩:∃ r,r=x.next[a.p]'oM:=⟨_,rfl⟩
 rw [← herr] at hR11
 obtain ⟨u11,rfl,hrr⟩:=hR11
 obtain ⟨A11,c11,rfl,_⟩:=id hrr
 have hlrr:rr.length=x.cells∧∀ z9∈rr,z9<x.next.length:=hxok.row rr vW
 refine Xt 5 hs rfl (Yg rfl (hp11 0 _ rfl)<|Xr [6,7] [0] hs rfl<|Xt 8 hs rfl (Bp c underlying80 sizeOf3 rfl rfl rfl oM<|Xt 9 hs rfl (Yg rfl (hB c (Bl cx) (by rw [hcx];exact Qy hcl hc))<|Xt 10 hs rfl (Ct hrr cx underlying79 sizeOf3 rfl rfl rfl oM fun p17 hp17=>?_))))
 obtain ⟨zx,hzx⟩:∃ z,z=rr[cx]'oM:=⟨_,rfl⟩
 rw [← hzx] at hp17
 refine Xt 11 hs rfl (Yg rfl (hp17)<|Xr [12] [257] hs rfl<|Xt 13 hs rfl (Yg rfl (hB2 257 _ (Gu hcy))<|Xr [14,15] [1,1] hs rfl<|Xt 16 hs rfl (Ca hN2 a.q underlying35 sizeOf79 rfl rfl rfl oM fun p23 c23 hp23 hc23 hR23=>?_)))
 have hyok:=hy
 obtain ⟨ss,hess⟩:∃ r,r=y.next[a.q]'oM:=⟨_,rfl⟩
 rw [← hess] at hR23
 obtain ⟨u23,rfl,hss⟩:=hR23
 obtain ⟨A23,c23,rfl,_⟩:=id hss
 have hlss:ss.length=y.cells∧∀ z9∈ss,z9<y.next.length:=hyok.row ss (by rw [hess];exact AaD _)
 refine Xt 17 hs rfl (Yg rfl (hp23 0 _ rfl)<|Xr [18,19] [0] hs rfl<|Xt 20 hs rfl (Bp c underlying80 sizeOf3 rfl rfl rfl oM<|Xt 21 hs rfl (Yg rfl (hB2 c (Bl cy) (by rw [hcy2];exact Qy hcy hc))<|Xt 22 hs rfl (Ct hss cy underlying79 sizeOf3 rfl rfl rfl oM fun p29 hp29=>?_))))
 obtain ⟨zy,hzy⟩:∃ z,z=ss[cy]'oM:=⟨_,rfl⟩
 rw [← hzy] at hp29
 refine Xt 23 hs rfl (Yg rfl (hp29)<|Xt 24 hs rfl (Ce zeroValue240 rfl PL240 rfl (cs:=[_,_,_]) rfl<|Xn 25 rfl (Sg hs rfl (rfl) fun _ hs=>Xe (Zk [6] rfl<|As<|Zz results171 (Rb 0 hs rfl rF) ?_))))
 have h1:x.to a.p (x.cell.getD c 0)=zx:=by rw [← hcx,Qj oM Z61];simp only [← herr];exact hzx.symm
 have h2:y.to a.q (y.cell.getD c 0)=zy:=by rw [← hcy2,Qj oM (by rw [← hess];omega)];simp only [← hess];exact hzy.symm
 exact hs.q (by unfold Wf;rw [h1,h2];rfl)
theorem or1t {q:Bool} :
  Ba prog 96 [Vt,.bool q] G [] fun r _ H'=>H'=[]∧r=.bool (true):=by
 refine Ba.of_T [(0,_),(1,_)] func96 rfl ntmps96 sM rfl fun w0 hs =>Wt 12 [0,0] hs rfl<|As<|Zz results96 rfl ?_
 exact hs.q rfl
theorem or1f {q:Bool} :
  Ba prog 96 [Vf,.bool q] G [] fun r _ H'=>H'=[]∧r=.bool (q):=by
 refine Ba.of_T [(0,_),(1,_)] func96 rfl ntmps96 sM rfl fun w0 hs =>Wt 12 [0,0] hs rfl<|As<|Zz results96 rfl ?_
 exact hs.q rfl
theorem and1t {q:Bool} :
  Ba prog 98 [Vt,.bool q] G [] fun r _ H'=>H'=[]∧r=.bool (q):=by
 refine Ba.of_T [(0,_),(1,_)] func98 rfl ntmps98 sM rfl fun w0 hs =>Wt 12 [0,0] hs rfl<|As<|Zz results98 rfl ?_
 exact hs.q rfl
theorem and1f {q:Bool} :
  Ba prog 98 [Vf,.bool q] G [] fun r _ H'=>H'=[]∧r=.bool (false):=by
 refine Ba.of_T [(0,_),(1,_)] func98 rfl ntmps98 sM rfl fun w0 hs =>Wt 12 [0,0] hs rfl<|As<|Zz results98 rfl ?_
 exact hs.q rfl
theorem min1bt {q:Bool} :
  Ba prog 99 [Vt,.bool q] G [] fun r _ H'=>H'=[]∧r=.bool (!q):=by
 refine Ba.of_T [(0,_),(1,_)] func99 rfl ntmps99 sM rfl fun w0 hs =>Wt 13 [0,0] hs rfl<|As<|Zz results99 rfl ?_
 exact hs.q rfl
theorem min1bf {q:Bool} :
  Ba prog 99 [Vf,.bool q] G [] fun r _ H'=>H'=[]∧r=.bool (false):=by
 refine Ba.of_T [(0,_),(1,_)] func99 rfl ntmps99 sM rfl fun w0 hs =>Wt 13 [0,0] hs rfl<|As<|Zz results99 rfl ?_
 exact hs.q rfl
theorem or1_ok (G:Ah) (p q:Bool):Ba prog 96 [.bool p,.bool q] G [] fun r _ H'=>H'=[]∧r=.bool (p || q):=by
  cases p
  · exact or1f
  · exact or1t
theorem and1_ok (G:Ah) (p q:Bool):Ba prog 98 [.bool p,.bool q] G [] fun r _ H'=>H'=[]∧r=.bool (p && q):=by
  cases p
  · exact and1f
  · exact and1t
theorem zH (G:Ah) (p q:Bool):Ba prog 99 [.bool p,.bool q] G [] fun r _ H'=>H'=[]∧r=.bool (p && !q):=by
  cases p
  · exact min1bf
  · exact min1bt
theorem pro2_ok {G : Ah} {bf bx by' : Nat} {x y : Tb} {a : Cs} {fh : Nat} {fnh : Func} {hh : Bool → Bool → Bool} (hfh : prog.funcs[fh]? = some fnh) (hbh : fnh.body.isSome = true) (hnh : (fnh.name == "runtime.NumGoroutine") = false) (hgh : ∀ (G : Ah) (p q : Bool), Ba prog fh [.bool p, .bool q] G [] fun r _ H' => H' = [] ∧ r = .bool (hh p q)) (hF : Cg G bf [.func (.func fh) #[] #[]]) (htx : nT G bx x) (hty : nT G by' y) (hx : Cn7.TOk x) (hy : Cn7.TOk y) (hp : a.p < x.next.length) (hq : a.q < y.next.length) :
  Ba prog 173 [.agg #[Vi (a.p:Int),Vi (a.q:Int),.int .u64 (a.s:Int)],Vp bf,Vp bx,.pointer (some ⟨by',0,none⟩)] G [] fun r _ H'=>H'=[]∧r=.bool (Qi hh x y a):=by
 obtain ⟨vn,va,hB,hcl,hN,hA⟩:=htx
 obtain ⟨An,cn,rfl⟩:=Bi.slice hN
 obtain ⟨Aa,ca,rfl,_⟩:=id hA
 obtain ⟨wn,wa,hB2,hcy,hN2,hA2⟩:=hty
 obtain ⟨Ny,ny,rfl⟩:=Bi.slice hN2
 obtain ⟨Ay,ay,rfl,_⟩:=id hA2
 have hxl:=hx.al
 have hyl:=hy.al
 refine Ba.of_T [(0,_),(1,_),(2,_),(3,_)] func173 rfl ntmps173 sM rfl fun w0 hs=>?_
 have hB0:=hB
 have hN0:=hN
 have hA0:=hA
 have hB20:=hB2
 have hN20:=hN2
 have hA20:=hA2
 have hF0:=hF
 refine Wt 2 [] hs rfl<|O_s (Sb hs rfl fun b4 _ hs=>Wp 3 [0] hs rfl<|Bg [0,1,2,3,4,5,6,7,8,9,10,11,12,13,14] hs kR ?_)
 replace hs:=hs.drew
 refine Xt 0 hs rfl (Yg rfl (hF 0 _ rfl)<|Xr [1] [258] hs rfl<|Xt 2 hs rfl (Yg rfl (hB 258 _ (Ld hcl))<|Xr [3,4] [0,0] hs rfl<|Xt 5 hs rfl (Ee a.p underlying30 sizeOf4 hA rfl rfl rfl (Dm oM) fun p11 hp11 =>Xt 6 hs rfl (Yg rfl (hp11)<|Xr [7] [258] hs rfl<|Xt 8 hs rfl (Yg rfl (hB2 258 _ (Ld hcy))<|Xr [9,10] [1,0] hs rfl<|Xt 11 hs rfl (Ee a.q underlying30 sizeOf4 hA2 rfl rfl rfl (Dm oM) fun p17 hp17 =>Xt 12 hs rfl (Yg rfl (hp17) ?_)))))))
 have hle:=hs.le
 refine Xo 13 rfl (Jb (args:=[_,_]) (lb:=[]) (H1:=[]) hs rfl rfl hfh hbh hnh (hgh _ _ _) fun v1 G' H' _ hR hG19 hs=>?_)
 obtain ⟨rfl,rfl⟩:=hR
 replace hs:=hs.n rfl
 refine Ai hs hle hG19 (lSr _)<|Xr [14] [] hs rfl<|Xe (Zk [5] rfl<|As<|Zz results173 rfl ?_)
 exact hs.q (by unfold Qi;rw [Bn oM,Bn oM])
def DE (G:Ah) (r:Value):Option Cy→Prop
  | some D=>∃ vd,r=.tuple #[vd,.int .i64 0]∧Hm G vd D
  | none=>r=.tuple #[.agg #[.slice none 0 0,.slice none 0 0,.slice none 0 0],.int .i64 2]
theorem DE.mono {G G':Ah} (h:G.le G') {r:Value}:∀ {R:Option Cy},DE G r R→DE G' r R
  | some _,⟨vd,e,hd⟩=>⟨vd,e,hd.mono h⟩
  | none,e=>e
theorem DE.tup {r:Value} {R:Option Cy} (h:DE G r R):∃ vd,r=.tuple #[vd,Vi (if R.isSome then 0 else 2)]∧∃ a1 n1 c1 a2 n2 c2 a3 n3 c3,vd=.agg #[.slice a1 n1 c1,.slice a2 n2 c2,.slice a3 n3 c3]:=by
  cases R with
  | none=>exact ⟨_,h,_,_,_,_,_,_,_,_,_,rfl⟩
  | some D =>
    obtain ⟨vd,e,c,n,a,e2,h1,h2,h3⟩:=h
    obtain ⟨A1,c1,rfl⟩:=Bi.slice h1
    obtain ⟨A2,c2,rfl⟩:=Bi.slice h2
    obtain ⟨A3,c3,rfl,_⟩:=h3
    exact ⟨vd,e,_,_,_,_,_,_,_,_,_,e2⟩
theorem lim7_ok {v:Value} {t:Tb} (ht:iC G v t) (hk:Cn7.TOk t) (h5:t.next.length≤5000) :
  Ba prog 146 [v] G [] fun r G' H'=>H'=[]∧∃ R,tT t=some R∧DE G' r R:=by
 obtain ⟨un,ua,rfl,hcl,hN,hA⟩:=ht
 obtain ⟨An,cn,rfl⟩:=Bi.slice hN
 obtain ⟨Aa,ca,rfl,_⟩:=id hA
 obtain ⟨D,hD,_,hDn,_⟩:=Cn7.canon_ok hk
 refine Ba.of_T [(0,_)] func146 rfl ntmps146 sM rfl fun w0 hs=>?_
 have hN0:=hN
 have hA0:=hA
 refine Wt 2 [] hs rfl<|O_s (Fj hs rfl (cs:=_) rfl fun b1 _ hs =>O_s (Sa hs zeroValue37 rfl fun b2 _ hs=>Wp 4 [0] hs rfl<|Zy hs (Yk 1 rfl (Cf hcl)<|O_s (Sp (canon_ok ⟨_,_,rfl,hcl,hN,hA⟩ (hk.tb h5) hD) hs rfl fun v1 G' _ hd hG6 hs=>?_))))
 obtain ⟨dc,dn,da,rfl,hdC,hdN,hdA⟩:=hd
 obtain ⟨Cd,cd,rfl⟩:=Bi.slice hdC
 obtain ⟨Nd,nd,rfl⟩:=Bi.slice hdN
 obtain ⟨Ad,ad,rfl,_⟩:=id hdA
 refine O_s (Sa hs zeroValue37 rfl fun b4 _ hs=>O_n (Sg hs rfl (rfl) fun _ hs=>Wp 7 [0,1,0] hs rfl<|Zy hs (Yc rfl (fun h10=>?_) fun h10=>?_)))
 ·
  refine Wp 4 [0] hs rfl<|Zy hs (Ce zeroValue37 rfl nN rfl (cs:=[_,_,_]) rfl<|O_n (Sg hs.f1 rfl (rfl) fun _ hs=>Wp 2 [0] hs rfl<|As ?_))
  have hr:=hs
  refine By (vs:=[_,_]) results146 rfl ⟨Bq 0 hr isAgg37 sizeOf37 rfl (cs:=[_,_,_]) rfl rfl,rfl,trivial⟩ ?_
  try dsimp only [tup]
  exact hs.q ⟨none,by unfold tT;rw [hD];exact if_neg oM,rfl⟩
 refine Wp 6 [0,0] hs rfl<|O_n (Sg hs.f1 rfl (rfl) fun _ hs=>Wp 2 [0] hs rfl<|As ?_)
 have hr:=hs
 refine By (vs:=[_,_]) results146 rfl ⟨Bq 0 hr isAgg37 sizeOf37 rfl (cs:=[_,_,_]) rfl rfl,rfl,trivial⟩ ?_
 try dsimp only [tup]
 exact hs.q ⟨some D,by unfold tT;rw [hD];exact if_pos oM,_,rfl,_,_,_,rfl,hdC,hdN,hdA⟩
theorem prod_ok {G : Ah} {v1 v2 : Value} {d1 d2 : Cy} {fh : Nat} {fnh : Func} {hh : Bool → Bool → Bool} (hfh : prog.funcs[fh]? = some fnh) (hbh : fnh.body.isSome = true) (hnh : (fnh.name == "runtime.NumGoroutine") = false) (hgh : ∀ (G : Ah) (p q : Bool), Ba prog fh [.bool p, .bool q] G [] fun r _ H' => H' = [] ∧ r = .bool (hh p q)) {RN : List (List Nat) × List Bool} (hd1 : Hm G v1 d1) (hd2 : Hm G v2 d2) (hk1 : Cn7.DOk d1) (hk2 : Cn7.DOk d2) (hT : Tab G)
  (hex:qA (Fv (Av d1) (Av d2)).bytes (Wf (Av d1) (Av d2)) (Qi hh (Av d1) (Av d2)) 1073741824 1073741825 0 [⟨0,0,0⟩] [] []=some (some RN)) :
  Ba prog 145 [v1,v2,.func (.func fh) #[] #[]] G [] fun r G' H'=>H'=[]∧iC G' r ⟨(Fv (Av d1) (Av d2)).cell,(Fv (Av d1) (Av d2)).bytes.length,RN.1,RN.2⟩:=by
 obtain ⟨vc1,vn1,va1,rfl,hC1,hN1,hA1⟩:=hd1
 obtain ⟨Ac1,cc1,rfl⟩:=Bi.slice hC1
 obtain ⟨An1,cn1,rfl⟩:=Bi.slice hN1
 obtain ⟨Aa1,ca1,rfl,_⟩:=id hA1
 obtain ⟨vc2,vn2,va2,rfl,hC2,hN2,hA2⟩:=hd2
 obtain ⟨Ac2,cc2,rfl⟩:=Bi.slice hC2
 obtain ⟨An2,cn2,rfl⟩:=Bi.slice hN2
 obtain ⟨Aa2,ca2,rfl,_⟩:=id hA2
 have hT1:=Cn7.tab_ok hk1
 have hT2:=Cn7.tab_ok hk2
 have hJo:=Vd (a:=Av d1) (b:=Av d2) 256
 rw [← uR] at hJo
 have hX1:=kJ d1
 have hX2:=kJ d2
 obtain ⟨X1,hX1e⟩:∃ X,X=Av d1:=⟨_,rfl⟩
 obtain ⟨X2,hX2e⟩:∃ X,X=Av d2:=⟨_,rfl⟩
 rw [← hX1e] at hT1 hex hJo hX1
 rw [← hX2e] at hT2 hex hJo hX2
 rw [← hX1e,← hX2e]
 obtain ⟨J,hJ⟩:∃ J,J=Fv X1 X2:=⟨_,rfl⟩
 rw [← hJ] at hex hJo
 rw [← hJ]
 have hJl:=hJo.cl
 have hJb:=hJo.le
 have hJ256:=hJo.bt
 refine Ba.of_T [(0,_),(1,_),(2,_)] func145 rfl ntmps145 sM rfl fun w0 hs=>?_
 have hC10:=hC1
 have hN10:=hN1
 have hA10:=hA1
 have hC20:=hC2
 have hN20:=hN2
 have hA20:=hA2
 have hT0:=hT
 refine Wt 2 [] hs rfl<|O_s (Sb hs rfl fun b3 _ hs=>O_s (Sb hs rfl fun b4 _ hs=>O_s (Sb hs rfl fun b5 _ hs=>O_s (Bs hs zeroValue160 (cs:=(Co (List.replicate 256 0) 0 (Vn) (Vn))) rfl fun b6 _ hs =>Wp 2 [0] hs rfl<|fE 2 [⟨0,14,fun G v=>v=.agg #[.slice Ac1 d1.cls.length cc1,.slice An1 d1.next.length cn1,.slice Aa1 d1.acc.length ca1],Ft⟩,⟨1,15,fun G v=>iC G v X1,Ft⟩,⟨2,16,fun G v=>v=.agg #[.slice Ac2 d2.cls.length cc2,.slice An2 d2.next.length cn2,.slice Aa2 d2.acc.length ca2],Ft⟩,⟨3,17,fun G v=>iC G v X2,Ft⟩,⟨4,7,fun G v=>Kb G v,Jt 160 (Co (List.replicate 256 0) 0 (Vn) (Vn))⟩,⟨5,8,fun G v=>Kb G v,Jt 160 (Co (List.replicate 256 0) 0 (Vn) (Vn))⟩] [(3,_),(4,_),(5,_),(6,_)] hs ⟨rfl,rfl,rfl,rfl,trivial⟩ rfl kR kR (Wq.mem ⟨fun _ _ _ _ h=>h,fun _ _ _ hG h=>h.mono hG,fun _ _ _ _ h=>h,fun _ _ _ hG h=>h.mono hG,fun _ _ _ _ h=>h,fun _ _ _ _ h=>h,trivial⟩) (Wq.mem ⟨?_,?_,?_,?_,?_,?_,trivial⟩) ?_))))
 ·
  refine ⟨_,rfl,rfl,rfl,fun G1 Hx L1 w1 hG1 hs hL hd=>?_⟩
  refine Ev [(3,_)] ⟨hL.1,trivial⟩<|S_y hs rfl (pI 3 isAgg37 sizeOf37 rfl rfl (vs:=[_,_,_]) rfl rfl ?_)
  exact ⟨_,gLr _,rfl,hs⟩
 ·
  refine ⟨_,rfl,rfl,rfl,fun G1 Hx L1 w1 hG1 hs hL hd=>?_⟩
  obtain ⟨u14,hv14,hR14⟩:=hd _ (AaF (i:=0) rfl) kR
  replace hR14:u14=.agg #[.slice Ac1 d1.cls.length cc1,.slice An1 d1.next.length cn1,.slice Aa1 d1.acc.length ca1]:=hR14
  subst hR14
  refine Ev [(14,_)] ⟨hv14,trivial⟩ ?_
  replace hC1:=hC1.mono hG1
  replace hN1:=hN1.mono hG1
  replace hA1:=hA1.mono hG1
  replace hT:=hT.mono hG1
  refine Et (H1:=[]) (H:=_::_::_::_::Hx) hs rfl func94 rfl kR (Le ⟨_,_,_,rfl,hC1,hN1,hA1⟩ hk1.k2 hT) fun v1 G' H' _ hR hG15 hs=>?_
  obtain ⟨rfl,h15⟩:=hR
  replace hs:St _ _ (_::_::_::_::Hx) _:=hs
  exact ⟨_,hG15,(by rw [hX1e];exact h15),hs⟩
 ·
  refine ⟨_,rfl,rfl,rfl,fun G1 Hx L1 w1 hG1 hs hL hd=>?_⟩
  refine Ev [(4,_)] ⟨hL.2.1,trivial⟩<|S_y hs rfl (pI 2 isAgg37 sizeOf37 rfl rfl (vs:=[_,_,_]) rfl rfl ?_)
  exact ⟨_,gLr _,rfl,hs⟩
 ·
  refine ⟨_,rfl,rfl,rfl,fun G1 Hx L1 w1 hG1 hs hL hd=>?_⟩
  obtain ⟨u16,hv16,hR16⟩:=hd _ (AaF (i:=2) rfl) kR
  replace hR16:u16=.agg #[.slice Ac2 d2.cls.length cc2,.slice An2 d2.next.length cn2,.slice Aa2 d2.acc.length ca2]:=hR16
  subst hR16
  refine Ev [(16,_)] ⟨hv16,trivial⟩ ?_
  replace hC2:=hC2.mono hG1
  replace hN2:=hN2.mono hG1
  replace hA2:=hA2.mono hG1
  replace hT:=hT.mono hG1
  refine Et (H1:=[]) (H:=_::_::_::_::Hx) hs rfl func94 rfl kR (Le ⟨_,_,_,rfl,hC2,hN2,hA2⟩ hk2.k2 hT) fun v2 G' H' _ hR hG17 hs=>?_
  obtain ⟨rfl,h17⟩:=hR
  replace hs:St _ _ (_::_::_::_::Hx) _:=hs
  exact ⟨_,hG17,(by rw [hX2e];exact h17),hs⟩
 ·
  refine ⟨_,rfl,rfl,rfl,fun G1 Hx L1 w1 hG1 hs hL hd=>?_⟩
  refine Ev [] trivial<|Bs hs zeroValue160 (cs:=(Co (List.replicate 256 0) 0 (Vn) (Vn))) rfl fun b7 _ hs=>?_
  exact ⟨_,gLr _,⟨_,rfl⟩,hs⟩
 ·
  refine ⟨_,rfl,rfl,rfl,fun G1 Hx L1 w1 hG1 hs hL hd=>?_⟩
  refine Ev [] trivial<|Bs hs zeroValue160 (cs:=(Co (List.replicate 256 0) 0 (Vn) (Vn))) rfl fun b8 _ hs=>?_
  exact ⟨_,gLr _,⟨_,rfl⟩,hs⟩
 intro G2 vals L2 w2 hG2 hs hL hv
 obtain ⟨hv15,hR15⟩:=hv _ (AaF (i:=1) rfl)
 replace hv15:Em L2 15=some (vals 1):=hv15
 replace hR15:iC G2 (vals 1) X1:=hR15
 obtain ⟨hv17,hR17⟩:=hv _ (AaF (i:=3) rfl)
 replace hv17:Em L2 17=some (vals 3):=hv17
 replace hR17:iC G2 (vals 3) X2:=hR17
 obtain ⟨hv7,hR7⟩:=hv _ (AaF (i:=4) rfl)
 replace hv7:Em L2 7=some (vals 4):=hv7
 replace hR7:Kb G2 (vals 4):=hR7
 obtain ⟨b7,hb7⟩:=hR7
 rw [hb7] at hv7
 obtain ⟨hv8,hR8⟩:=hv _ (AaF (i:=5) rfl)
 replace hv8:Em L2 8=some (vals 5):=hv8
 replace hR8:Kb G2 (vals 5):=hR8
 obtain ⟨b8,hb8⟩:=hR8
 rw [hb8] at hv8
 simp only [Ff,Aan,List.flatMap_nil,cond_true,Ft,Jt,fD,AbA,AaX,Abc,List.singleton_append,hb7,hb8] at hs
 obtain ⟨u15,hu15⟩:∃ u,u=vals 1:=⟨_,rfl⟩
 rw [← hu15] at hv15 hR15
 clear hu15
 obtain ⟨u15,w15,rfl,hc15,hn15,ha15⟩:=hR15
 obtain ⟨N15,n15,rfl⟩:=Bi.slice hn15
 obtain ⟨A15,a15,rfl,_⟩:=id ha15
 obtain ⟨u17,hu17⟩:∃ u,u=vals 3:=⟨_,rfl⟩
 rw [← hu17] at hv17 hR17
 clear hu17
 obtain ⟨u17,w17,rfl,hc17,hn17,ha17⟩:=hR17
 obtain ⟨N17,n17,rfl⟩:=Bi.slice hn17
 obtain ⟨A17,a17,rfl,_⟩:=id ha17
 refine pS [(15,_),(17,_),(7,_),(8,_),(5,_),(6,_)] ⟨hv15,hv17,hv7,hv8,hL.2.2.1,hL.2.2.2.1,trivial⟩<|Xn 6 rfl (Sw hs.f4 rfl Z3 Z3 (Gj rfl rfl) fun _ hs=>Xn 7 rfl (Sw hs.f5 rfl Z3 Z3 (Gj rfl rfl) fun _ hs=>Xe (Zk [5,6,7,8] rfl<|Wt 2 [] hs rfl<|Zy hs (Yk 1 rfl (Cf hX1)<|Zy hs (Yk 0 rfl (Cf hX2)<|O_s (Sp (aO ⟨_,_,rfl,hX1,hn15,ha15⟩ ⟨_,_,rfl,hX2,hn17,ha17⟩) hs rfl fun v3 G' _ hR hG21 hs=>?_))))))
 obtain ⟨vj,rfl,hj⟩:=hR
 rw [← hJ] at hj ⊢
 obtain ⟨Aj,cj,rfl,_⟩:=id hj
 refine Wp 3 [] hs rfl<|O_s (Bs hs zeroValue80 (cs:=(List.map Bx (List.replicate 256 0))) rfl fun b9 _ hs =>O_n (Sw hs rfl Z3 Z3 (Hb) fun _ hs=>Wp 2 [0] hs rfl ?_))
 have hs:=hs.f2
 obtain ⟨_,hGbhB7,hB7,hs⟩:=hs.fixBlk (fun k _=>Gb k)
 replace hB7:Cg _ b7 _:=hB7
 have hs:=hs.f1
 obtain ⟨_,hGbhB8,hB8,hs⟩:=hs.fixBlk (fun k _=>Gb k)
 replace hB8:Cg _ b8 _:=hB8
 have hs:=hs.f2
 obtain ⟨_,hGbhF5,hF5,hs⟩:=hs.fixBlk (fun k _=>Gb k)
 replace hF5:Cg _ b5 _:=hF5
 refine Wu 2 [] hs rfl<|Zy hs (He (vs:=[_,_]) rfl<|Wp 4 [0] hs rfl<|Zy hs (Yk 0 rfl ((AaC _).trans hJl)<|Wp 1 [] hs rfl<|Zy hs (Ce zeroValue240 rfl PL240 rfl (cs:=[_,_,_]) rfl<|Wp 1 [] hs rfl<|Zy hs (He (vs:=[_,_,_]) rfl ?_))))
 have hGz:=hG21.trans (hGbhB7.trans (hGbhB8.trans hGbhF5))
 replace hn15:=hn15.mono hGz
 replace ha15:=ha15.mono hGz
 replace hn17:=hn17.mono hGz
 replace ha17:=ha17.mono hGz
 replace hj:=hj.mono (hGbhB7.trans (hGbhB8.trans hGbhF5))
 replace hB7:=hB7.mono (hGbhB8.trans hGbhF5)
 replace hB8:=hB8.mono hGbhF5
 refine O_s (Sp (expl_ok (start:=⟨0,0,0⟩) (nx:=Wf X1 X2) (ac:=Qi hh X1 X2) (ok:=fun s=>s.p<X1.next.length∧s.q<X2.next.length) (most:=1073741824) (lb1:=[Vp b7,Vp b8]) (lb2:=[Vp b5,Vp b7,Vp b8]) hJl hj hJb dC dC ⟨by have:=hT1.n1;show 0<_;omega,by have:=hT2.n1;show 0<_;omega⟩ (fun s c hc hs=>⟨Cn7.step_lt hT1 hs.1 (hJ256 c hc),Cn7.step_lt hT2 hs.2 (hJ256 c hc)⟩) func171 rfl kR func173 rfl kR (fun G' s c hs hc hG=>pro1_ok ⟨_,_,hB7.mono hG,hX1,hn15.mono hG,ha15.mono hG⟩ ⟨_,_,hB8.mono hG,hX2,hn17.mono hG,ha17.mono hG⟩ hT1 hT2 (hJ256 c hc) hs.1 hs.2) (fun G' s hs hG=>pro2_ok hfh hbh hnh hgh (hF5.mono hG) ⟨_,_,hB7.mono hG,hX1,hn15.mono hG,ha15.mono hG⟩ ⟨_,_,hB8.mono hG,hX2,hn17.mono hG,ha17.mono hG⟩ hT1 hT2 hs.1 hs.2) hex) hs rfl fun v4 G' _ hR hG31 hs=>?_)
 obtain ⟨vt,rfl,h32⟩:=hR
 obtain ⟨u32,w32,rfl,hc32,hn32,ha32⟩:=h32
 obtain ⟨N32,n32,rfl⟩:=Bi.slice hn32
 obtain ⟨A32,a32,rfl,_⟩:=id ha32
 refine Wp 3 [] hs rfl<|O_s (Bs hs zeroValue160 (cs:=(Co (List.replicate 256 0) 0 (Vn) (Vn))) rfl fun b12 _ hs =>O_n (Sw hs rfl Z3 Z3 (Gj rfl rfl) fun _ hs=>Wp 4 [2,6,12] hs rfl<|Zy hs (Yk 0 rfl (Cf hJl)<|O_n (Sw hs.f2 rfl Z3 Z3 (Gj rfl rfl) fun _ hs=>Wp 1 [0] hs rfl<|As<|Zz results145 (Rb 0 hs rfl Z3) ?_))))
 exact hs.q ⟨_,_,rfl,hJl,hn32,ha32⟩
theorem bA {G : Ah} {v1 v2 : Value} {d1 d2 : Cy} {fh : Nat} {fnh : Func} {hh : Bool → Bool → Bool} (hfh : prog.funcs[fh]? = some fnh) (hbh : fnh.body.isSome = true) (hnh : (fnh.name == "runtime.NumGoroutine") = false) (hgh : ∀ (G : Ah) (p q : Bool), Ba prog fh [.bool p, .bool q] G [] fun r _ H' => H' = [] ∧ r = .bool (hh p q)) (hd1 : Hm G v1 d1) (hd2 : Hm G v2 d2) (hk1 : Cn7.DOk d1) (hk2 : Cn7.DOk d2) (h641 : d1.next.length ≤ 64) (h642 : d2.next.length ≤ 64) (hT : Tab G) :
  Ba prog 95 [v1,v2,.func (.func fh) #[] #[]] G [] fun r G' H'=>H'=[]∧∃ R,Cn7.LimOf (fun u=>hh (Cn7.lb (Av d1) 0 u) (Cn7.lb (Av d2) 0 u)) R∧(d1.next.length*d2.next.length≤64→R≠none)∧DE G' r R:=by
 obtain ⟨vc1,vn1,va1,rfl,hC1,hN1,hA1⟩:=hd1
 obtain ⟨Ac1,cc1,rfl⟩:=Bi.slice hC1
 obtain ⟨An1,cn1,rfl⟩:=Bi.slice hN1
 obtain ⟨Aa1,ca1,rfl,_⟩:=id hA1
 obtain ⟨vc2,vn2,va2,rfl,hC2,hN2,hA2⟩:=hd2
 obtain ⟨Ac2,cc2,rfl⟩:=Bi.slice hC2
 obtain ⟨An2,cn2,rfl⟩:=Bi.slice hN2
 obtain ⟨Aa2,ca2,rfl,_⟩:=id hA2
 obtain ⟨RN,hex,htk,hle,hlang⟩:=Cn7.comb_run (h:=hh) hk1 hk2 h641 h642
 have hmul:d1.next.length*d2.next.length≤64*64:=Abg h641 h642
 obtain ⟨R0,hR0,hne,hlim⟩:=Cn7.lim_ok htk
 obtain ⟨X,hXe⟩:∃ X:Tb,X=⟨(Fv (Av d1) (Av d2)).cell,(Fv (Av d1) (Av d2)).bytes.length,RN.1,RN.2⟩:=⟨_,rfl⟩
 have hX5:X.next.length≤5000:=by rw [hXe];show RN.1.length≤5000;omega
 have hne2:d1.next.length*d2.next.length≤64→R0≠none:=fun h=>hne (by show RN.1.length≤64;omega)
 rw [← hXe] at htk hlang hR0 hlim
 refine Ba.of_T [(0,_),(1,_),(2,_)] func95 rfl ntmps95 sM rfl fun w0 hs=>?_
 have hC10:=hC1
 have hN10:=hN1
 have hA10:=hA1
 have hC20:=hC2
 have hN20:=hN2
 have hA20:=hA2
 have hT0:=hT
 refine Wt 2 [] hs rfl<|O_s (Sb hs rfl fun b3 _ hs=>O_s (Sb hs rfl fun b4 _ hs=>O_s (Sa hs zeroValue37 rfl fun b6 _ hs=>Wp 6 [0,2] hs rfl<|O_s (Sp (Oz ⟨_,_,_,rfl,hC1,hN1,hA1⟩ hk1 h641) hs rfl fun v1 G' _ hR hG9 hs=>?_))))
 obtain rfl:=hR
 refine Wp 3 [1] hs rfl ?_
 replace hC2:=hC2.mono hG9
 replace hN2:=hN2.mono hG9
 replace hA2:=hA2.mono hG9
 refine Dh 11 rfl rfl (Sp (Oz ⟨_,_,_,rfl,hC2,hN2,hA2⟩ hk2 h642) hs rfl fun v2 G' _ hR hG13 hs=>?_)
 obtain rfl:=hR
 refine Wp 10 [0,2,1] hs rfl ?_
 have hGz:=hG9.trans hG13
 replace hC1:=hC1.mono hGz
 replace hN1:=hN1.mono hGz
 replace hA1:=hA1.mono hGz
 replace hT:=hT.mono hGz
 replace hC2:=hC2.mono hG13
 replace hN2:=hN2.mono hG13
 replace hA2:=hA2.mono hG13
 refine O_s (Sp (prod_ok hfh hbh hnh hgh ⟨_,_,_,rfl,hC1,hN1,hA1⟩ ⟨_,_,_,rfl,hC2,hN2,hA2⟩ hk1 hk2 hT hex) hs rfl fun v3 G' _ h20 hG20 hs=>?_)
 rw [← hXe] at h20
 obtain ⟨u20,w20,rfl,hc20,hn20,ha20⟩:=h20
 obtain ⟨N20,n20,rfl⟩:=Bi.slice hn20
 obtain ⟨A20,a20,rfl,_⟩:=id ha20
 refine O_s (Sp (lim7_ok ⟨_,_,rfl,hc20,hn20,ha20⟩ htk hX5) hs rfl fun v4 G' _ hR hG21 hs=>?_)
 obtain ⟨R,hR,hde21⟩:=hR
 obtain ⟨vd21,hre21,ea21,en21,ec21,fa21,fn21,fc21,ga21,gn21,gc21,hve21⟩:=hde21.tup
 subst hve21
 subst hre21
 refine Wp 2 [] hs rfl<|O_n (Sg hs rfl (rfl) fun _ hs=>Wp 2 [2,6,7] hs rfl<|As ?_)
 have hr:=hs
 refine By (vs:=[_,_]) results95 rfl ⟨Bq 0 hr isAgg37 sizeOf37 rfl (cs:=[_,_,_]) rfl rfl,rfl,trivial⟩ ?_
 try dsimp only [tup]
 obtain rfl:=Option.some.inj (hR.symm.trans hR0)
 exact hs.q ⟨R,hlim.congr hlang,hne2,hde21⟩
theorem zI {v1 v2:Value} {d1 d2:Cy} (hd1:Hm G v1 d1) (hd2:Hm G v2 d2) (hk1:Cn7.DOk d1) (hk2:Cn7.DOk d2) (h641:d1.next.length≤64) (h642:d2.next.length≤64) (hT:Tab G) :
  Ba prog 35 [v1,v2] G [] fun r G' H'=>H'=[]∧∃ R,Cn7.LimOf (fun u=>((Cn7.lb (Av d1) 0 u) || (Cn7.lb (Av d2) 0 u))) R∧(d1.next.length*d2.next.length≤64→R≠none)∧DE G' r R:=by
 obtain ⟨vc1,vn1,va1,rfl,hC1,hN1,hA1⟩:=hd1
 obtain ⟨Ac1,cc1,rfl⟩:=Bi.slice hC1
 obtain ⟨An1,cn1,rfl⟩:=Bi.slice hN1
 obtain ⟨Aa1,ca1,rfl,_⟩:=id hA1
 obtain ⟨vc2,vn2,va2,rfl,hC2,hN2,hA2⟩:=hd2
 obtain ⟨Ac2,cc2,rfl⟩:=Bi.slice hC2
 obtain ⟨An2,cn2,rfl⟩:=Bi.slice hN2
 obtain ⟨Aa2,ca2,rfl,_⟩:=id hA2
 refine Ba.of_T [(0,_),(1,_)] func35 rfl ntmps35 sM rfl fun w0 hs=>?_
 have hC10:=hC1
 have hN10:=hN1
 have hA10:=hA1
 have hC20:=hC2
 have hN20:=hN2
 have hA20:=hA2
 have hT0:=hT
 refine Wt 2 [] hs rfl<|O_s (Sb hs rfl fun b2 _ hs=>O_s (Sb hs rfl fun b3 _ hs=>O_s (Sa hs zeroValue37 rfl fun b4 _ hs=>Wp 6 [0,2,1] hs rfl<|O_s (Sp (bA (hh:=fun p q=>(p || q)) func96 rfl kR or1_ok ⟨_,_,_,rfl,hC1,hN1,hA1⟩ ⟨_,_,_,rfl,hC2,hN2,hA2⟩ hk1 hk2 h641 h642 hT) hs rfl fun v1 G' _ hR hG8 hs=>?_))))
 obtain ⟨R,hlim,hne,hde8⟩:=hR
 obtain ⟨vd8,hre8,ea8,en8,ec8,fa8,fn8,fc8,ga8,gn8,gc8,hve8⟩:=hde8.tup
 subst hve8
 subst hre8
 refine Wp 2 [] hs rfl<|O_n (Sg hs rfl (rfl) fun _ hs=>Wp 2 [0] hs rfl<|As ?_)
 have hr:=hs
 refine By (vs:=[_,_]) results35 rfl ⟨Bq 0 hr isAgg37 sizeOf37 rfl (cs:=[_,_,_]) rfl rfl,rfl,trivial⟩ ?_
 try dsimp only [tup]
 exact hs.q ⟨R,hlim,hne,hde8⟩
theorem and7_ok {v1 v2:Value} {d1 d2:Cy} (hd1:Hm G v1 d1) (hd2:Hm G v2 d2) (hk1:Cn7.DOk d1) (hk2:Cn7.DOk d2) (h641:d1.next.length≤64) (h642:d2.next.length≤64) (hT:Tab G) :
  Ba prog 38 [v1,v2] G [] fun r G' H'=>H'=[]∧∃ R,Cn7.LimOf (fun u=>((Cn7.lb (Av d1) 0 u) && (Cn7.lb (Av d2) 0 u))) R∧(d1.next.length*d2.next.length≤64→R≠none)∧DE G' r R:=by
 obtain ⟨vc1,vn1,va1,rfl,hC1,hN1,hA1⟩:=hd1
 obtain ⟨Ac1,cc1,rfl⟩:=Bi.slice hC1
 obtain ⟨An1,cn1,rfl⟩:=Bi.slice hN1
 obtain ⟨Aa1,ca1,rfl,_⟩:=id hA1
 obtain ⟨vc2,vn2,va2,rfl,hC2,hN2,hA2⟩:=hd2
 obtain ⟨Ac2,cc2,rfl⟩:=Bi.slice hC2
 obtain ⟨An2,cn2,rfl⟩:=Bi.slice hN2
 obtain ⟨Aa2,ca2,rfl,_⟩:=id hA2
 refine Ba.of_T [(0,_),(1,_)] func38 rfl ntmps38 sM rfl fun w0 hs=>?_
 have hC10:=hC1
 have hN10:=hN1
 have hA10:=hA1
 have hC20:=hC2
 have hN20:=hN2
 have hA20:=hA2
 have hT0:=hT
 refine Wt 2 [] hs rfl<|O_s (Sb hs rfl fun b2 _ hs=>O_s (Sb hs rfl fun b3 _ hs=>O_s (Sa hs zeroValue37 rfl fun b4 _ hs=>Wp 6 [0,2,1] hs rfl<|O_s (Sp (bA (hh:=fun p q=>(p && q)) func98 rfl kR and1_ok ⟨_,_,_,rfl,hC1,hN1,hA1⟩ ⟨_,_,_,rfl,hC2,hN2,hA2⟩ hk1 hk2 h641 h642 hT) hs rfl fun v1 G' _ hR hG8 hs=>?_))))
 obtain ⟨R,hlim,hne,hde8⟩:=hR
 obtain ⟨vd8,hre8,ea8,en8,ec8,fa8,fn8,fc8,ga8,gn8,gc8,hve8⟩:=hde8.tup
 subst hve8
 subst hre8
 refine Wp 2 [] hs rfl<|O_n (Sg hs rfl (rfl) fun _ hs=>Wp 2 [0] hs rfl<|As ?_)
 have hr:=hs
 refine By (vs:=[_,_]) results38 rfl ⟨Bq 0 hr isAgg37 sizeOf37 rfl (cs:=[_,_,_]) rfl rfl,rfl,trivial⟩ ?_
 try dsimp only [tup]
 exact hs.q ⟨R,hlim,hne,hde8⟩
theorem min7_ok {v1 v2:Value} {d1 d2:Cy} (hd1:Hm G v1 d1) (hd2:Hm G v2 d2) (hk1:Cn7.DOk d1) (hk2:Cn7.DOk d2) (h641:d1.next.length≤64) (h642:d2.next.length≤64) (hT:Tab G) :
  Ba prog 40 [v1,v2] G [] fun r G' H'=>H'=[]∧∃ R,Cn7.LimOf (fun u=>((Cn7.lb (Av d1) 0 u) && !(Cn7.lb (Av d2) 0 u))) R∧(d1.next.length*d2.next.length≤64→R≠none)∧DE G' r R:=by
 obtain ⟨vc1,vn1,va1,rfl,hC1,hN1,hA1⟩:=hd1
 obtain ⟨Ac1,cc1,rfl⟩:=Bi.slice hC1
 obtain ⟨An1,cn1,rfl⟩:=Bi.slice hN1
 obtain ⟨Aa1,ca1,rfl,_⟩:=id hA1
 obtain ⟨vc2,vn2,va2,rfl,hC2,hN2,hA2⟩:=hd2
 obtain ⟨Ac2,cc2,rfl⟩:=Bi.slice hC2
 obtain ⟨An2,cn2,rfl⟩:=Bi.slice hN2
 obtain ⟨Aa2,ca2,rfl,_⟩:=id hA2
 refine Ba.of_T [(0,_),(1,_)] func40 rfl ntmps40 sM rfl fun w0 hs=>?_
 have hC10:=hC1
 have hN10:=hN1
 have hA10:=hA1
 have hC20:=hC2
 have hN20:=hN2
 have hA20:=hA2
 have hT0:=hT
 refine Wt 2 [] hs rfl<|O_s (Sb hs rfl fun b2 _ hs=>O_s (Sb hs rfl fun b3 _ hs=>O_s (Sa hs zeroValue37 rfl fun b4 _ hs=>Wp 6 [0,2,1] hs rfl<|O_s (Sp (bA (hh:=fun p q=>(p && !q)) func99 rfl kR zH ⟨_,_,_,rfl,hC1,hN1,hA1⟩ ⟨_,_,_,rfl,hC2,hN2,hA2⟩ hk1 hk2 h641 h642 hT) hs rfl fun v1 G' _ hR hG8 hs=>?_))))
 obtain ⟨R,hlim,hne,hde8⟩:=hR
 obtain ⟨vd8,hre8,ea8,en8,ec8,fa8,fn8,fc8,ga8,gn8,gc8,hve8⟩:=hde8.tup
 subst hve8
 subst hre8
 refine Wp 2 [] hs rfl<|O_n (Sg hs rfl (rfl) fun _ hs=>Wp 2 [0] hs rfl<|As ?_)
 have hr:=hs
 refine By (vs:=[_,_]) results40 rfl ⟨Bq 0 hr isAgg37 sizeOf37 rfl (cs:=[_,_,_]) rfl rfl,rfl,trivial⟩ ?_
 try dsimp only [tup]
 exact hs.q ⟨R,hlim,hne,hde8⟩
theorem No {α:Type} {l:List α} {n k:Nat} {z v:α} (hl:l.length=k) (h:k<n):(l++List.replicate (n-k) z).set k v=(l++[v])++List.replicate (n-(k+1)) z:=by
  subst hl
  rw [AbM _ _ oM,Aaw,show n-l.length=(n-(l.length+1))+1 by omega,AbY,AcH,AaI];rfl
def ntK (l:List Bool) (k:Nat):List Bool:=(l.take k).map (!·)++List.replicate (l.length-k) false
theorem zJ {l:List Bool} {k:Nat} (h:k<l.length):(ntK l k).set k (!(l[k]))=ntK l (k+1):=by
  unfold ntK
  rw [No Z36 h,Aay,AaA h,AaU];rfl
theorem zK (l:List Bool):ntK l 0=List.replicate l.length false:=by unfold ntK;simp
theorem zL (l:List Bool):ntK l l.length=l.map (!·):=by unfold ntK;simp
theorem rS {v:Value} {d:Cy} (hd:Hm G v d) (hk:Cn7.DOk d) (h64:d.next.length≤64) (hT:Tab G) :
  Ba prog 34 [v] G [] fun r G' H'=>H'=[]∧∃ D vd,r=.tuple #[vd,Vi 0]∧Hm G' vd D∧Cn7.Can D∧D.next.length≤d.next.length∧∀ u,Cn7.lb (Av D) 0 u=!(Cn7.lb (Av d) 0 u):=by
 obtain ⟨vc,vn,va,rfl,hC,hN,hA⟩:=hd
 obtain ⟨Ac,cc,rfl⟩:=Bi.slice hC
 obtain ⟨An,cn,rfl⟩:=Bi.slice hN
 obtain ⟨Aa,ca,rfl,_⟩:=id hA
 have htok:=Cn7.tab_ok hk
 obtain ⟨D,hD,hcan,hDn,hlang⟩:=Cn7.not_ok7 hk
 obtain ⟨X,hXe⟩:∃ X,X=Av d:=⟨_,rfl⟩
 have hxn:X.next.length=d.next.length:=by rw [hXe];rfl
 have hD2:Eu { X with acc:=X.acc.map (!·) }=some D:=by rw [hXe];exact hD
 rw [← hXe] at htok
 have hok:Tb.ok { X with acc:=X.acc.map (!·) }:=⟨htok.n1,by show X.next.length≤5000;omega,by show (X.acc.map _).length=X.next.length;rw [AaC];exact htok.al,htok.cc,htok.row,htok.cell⟩
 have hal:=htok.al
 refine Ba.of_T [(0,_)] func34 rfl ntmps34 sM rfl fun w0 hs=>?_
 have hC0:=hC
 have hN0:=hN
 have hA0:=hA
 have hT0:=hT
 refine Wt 2 [] hs rfl<|O_s (Sb hs rfl fun b1 _ hs=>O_s (Sa hs zeroValue37 rfl fun b2 _ hs=>Wp 6 [0,1] hs rfl<|O_s (Sp (Oz ⟨_,_,_,rfl,hC,hN,hA⟩ hk h64) hs rfl fun v1 G' _ hR hG9 hs=>?_)))
 obtain rfl:=hR
 refine Wp 7 [0,1] hs rfl ?_
 replace hC:=hC.mono hG9
 replace hN:=hN.mono hG9
 replace hA:=hA.mono hG9
 replace hT:=hT.mono hG9
 refine O_s (Sp (Le ⟨_,_,_,rfl,hC,hN,hA⟩ hk.k2 hT) hs rfl fun v2 G' _ h13 hG13 hs=>?_)
 rw [← hXe] at h13
 obtain ⟨u13,w13,rfl,hc13,hn13,ha13⟩:=h13
 obtain ⟨N13,n13,rfl⟩:=Bi.slice hn13
 obtain ⟨A13,a13,rfl,_⟩:=id ha13
 refine O_s (Bs hs zeroValue160 (cs:=(Co (List.replicate 256 0) 0 (Vn) (Vn))) rfl fun b4 _ hs =>O_n (Sw hs rfl Z25 Z25 (Gj rfl rfl) fun _ hs=>Wp 4 [0,258] hs rfl<|Zy hs (Ej 0 isAgg30 rfl rfl (Ld hc13)<|Wp 1 [] hs rfl<|O_s (Dw (n:=X.acc.length) (m:=X.acc.length) hs underlying30 Pw rfl rfl rfl oM oM oM fun b17 _ hs =>Wp 6 [0,258] hs rfl<|Zy hs (Ej 1 isAgg30 rfl rfl (Ld hc13)<|Wp 3 [0] hs rfl ?_)))))
 have hs:=hs.f2.f3.f3.f3
 rw [Ox,← zK] at hs
 obtain ⟨Gp0,hGp⟩:=hs.name
 subst hGp
 have hn13_0:=hn13
 have ha13_0:=ha13
 refine Zl [2,4,5,19,20,21] (fun m E w=>∃ (k:Nat) (G2:Ah),Cu Gp0 G2∧k≤X.acc.length∧m=X.acc.length-k∧E=⟨[],[(2,Vp b2),(4,Vp b4),(5,Vs b17 X.acc.length X.acc.length),(19,.slice A13 X.acc.length a13),(20,Vi ((X.acc.length:Nat):Int)),(21,Vi (k:Int))]⟩∧St ⟨w0,G,Bj []⟩ G2 [.row 4 1 (Vs b17 X.acc.length X.acc.length) X.acc.length ((ntK X.acc k).map Da),.blk b4 160 (Co X.cell X.cells (.slice N13 X.next.length n13) (.slice A13 X.acc.length a13)),.blk b1 37 [.slice Ac d.cls.length cc,.slice An d.next.length cn,.slice Aa d.acc.length ca],.blk b2 37 [Vn,Vn,Vn]] w) rfl (⟨0,_,Cu.refl _,by omega,rfl,rfl,hs⟩) fun m E w hI=>?_
 obtain ⟨k,G2,hlg0,hk9,rfl,rfl,hs⟩:=hI
 have hn13:=hn13_0.mono hlg0
 have ha13:=ha13_0.mono hlg0
 refine Wt 2 [] hs rfl<|Zy hs (Yc rfl (fun h22=>?_) fun h22=>?_)
 ·
  refine Wp 9 [0] hs rfl<|Zy hs (Ee k underlying30 sizeOf4 ha13 rfl rfl rfl (Dm oM) fun p24 hp24=>?_)
  obtain ⟨q,hq⟩:∃ q,q=X.acc[k]'oM:=⟨_,rfl⟩
  rw [← hq] at hp24
  refine Zy hs (Yg rfl (hp24)<|Wp 8 [0] hs rfl<|Zy hs (Be (k) underlying30 sizeOf4 rfl rfl rfl oM<|O_n (Bz hs sizeOf4 rfl rfl rfl oM fun _ hs =>Wp 2 [0] hs rfl<|Zy hs (Ya (s:=((k+1:Nat):Int)) rfl<|Wp 1 [] hs rfl ?_))))
  have hs:=hs.f3.f3.f3.f3
  refine Zx [2,4,5,19,20,21] rfl ⟨k+1,_,hlg0,by omega,rfl,rfl,by rw [← zJ oM,← hq,Aad];exact hs⟩
 refine Wp 4 [0] hs rfl ?_
 obtain rfl:k=X.acc.length:=by omega
 rw [zL] at hs
 obtain ⟨_,hG_hnb,hnb,hs⟩:=hs.fixRow noM
 replace hnb:Dt _ (Vs b17 X.acc.length X.acc.length) (X.acc.map (!·)):=(show Dt _ _ _ from by unfold Dt;rw [AaC];exact hnb)
 refine Wu 4 [258] hs rfl<|O_n (Gc hs sizeOf30 rfl rfl rfl (by rw [Cf hc13];omega) (cs':=(Co X.cell X.cells (.slice N13 X.next.length n13) (Vs b17 X.acc.length X.acc.length))) (Kj hc13) fun _ hs =>Wp 3 [0] hs rfl<|Zy hs (Yk 0 rfl (Cf hc13) ?_))
 replace hn13:=hn13.mono hG_hnb
 refine O_s (Sp (canon_ok (t:={ X with acc:=X.acc.map (!·) }) ⟨_,_,rfl,hc13,hn13,hnb⟩ hok hD2) hs rfl fun v3 G' _ hz hG35 hs=>?_)
 obtain ⟨zc,zn,za,rfl,hzC,hzN,hzA⟩:=hz
 obtain ⟨Cz,cz,rfl⟩:=Bi.slice hzC
 obtain ⟨Nz,nz,rfl⟩:=Bi.slice hzN
 obtain ⟨Az,az,rfl,_⟩:=id hzA
 refine O_n (Sg hs.f2 rfl (rfl) fun _ hs=>Wp 2 [0] hs rfl<|As ?_)
 have hr:=hs
 refine By (vs:=[_,_]) results34 rfl ⟨Bq 0 hr isAgg37 sizeOf37 rfl (cs:=[_,_,_]) rfl rfl,rfl,trivial⟩ ?_
 try dsimp only [tup]
 exact hs.q ⟨D,_,rfl,⟨_,_,_,rfl,hzC,hzN,hzA⟩,hcan,hDn,hlang⟩
def Ti (k:Nat):List Nat:=List.range k++List.replicate (256-k) 0
theorem Vg {k:Nat} (h:k≤256):(Ti k).length=256:=by unfold Ti;rw [AaB,AaO,AaJ];omega
theorem nV {k:Nat} (h:k<256):(Ti k).set k k=Ti (k+1):=by
  unfold Ti
  rw [AbM _ _ (by rw [AaO];exact AaR k),AaO,Aaw,show 256-k=(256-(k+1))+1 from by omega,AbY,AcH,AbC,AaI]
  rfl
theorem nW:Ti 256=List.range 256:=by unfold Ti;rw [Aaw,AbH,AaX]
def uU (w:List UInt8) (s:Nat):List Nat:=if s<w.length then (List.replicate 256 (w.length+1)).set (w.getD s 0).toNat (s+1) else List.replicate 256 (w.length+1)
def zM (w:List UInt8) (s:Nat):List (List Nat):=(List.range s).map (uU w)
theorem Py (w:List UInt8) (s:Nat):zM w (s+1)=zM w s++[uU w s]:=by unfold zM;rw [AbC,AaU];rfl
def bB (v j:Nat):List Nat:=List.replicate j v++List.replicate (256-j) 0
theorem nX {v j:Nat} (h:j<256):(bB v j).set j v=bB v (j+1):=by
  unfold bB
  rw [AbM _ _ (by rw [AaJ];exact AaR j),AaJ,Aaw,show 256-j=(256-(j+1))+1 from by omega,AbY,AcH,List.replicate_succ',AaI]
  rfl
theorem bC (v:Nat):bB v 256=List.replicate 256 v:=by unfold bB;rw [Aaw,AbH,AaX]
theorem Xl (n s:Nat):((List.range (s+1)).map fun i=>decide (i=n)).map Da=((List.range s).map fun i=>decide (i=n)).map Da++[Value.bool (decide (s=n))]:=by rw [AbC,AaU,AaU];rfl
theorem rowW_t {v:Value} {wd:List UInt8} {s:Nat} {x:UInt8} (h:s<wd.length) (hx:x=wd[s]) (hv:Sl G v 1 256 (((List.replicate 256 (wd.length+1)).map Bl).set x.toNat (Bl (s+1)))):De G v (uU wd s):=by
  unfold uU;rw [if_pos h];unfold De;rw [AaP,AaJ,Aad,Cn7.gD h,← hx];exact hv
theorem rowW_f {v:Value} {wd:List UInt8} {s:Nat} (h:¬ s<wd.length) (hv:Sl G v 1 256 ((List.replicate 256 (wd.length+1)).map Bl)):De G v (uU wd s):=by
  unfold uU;rw [if_neg h];unfold De;rw [AaJ];exact hv
theorem zN {v:Value} {wd:List UInt8} (hw:Bd G v wd) (hwl:wd.length≤62) :
  Ba prog 33 [v] G [] fun r G' H'=>H'=[]∧∃ D vd,r=.tuple #[vd,Vi 0]∧Hm G' vd D∧Cn7.Can D∧D.next.length≤wd.length+2∧∀ u,Cn7.lb (Av D) 0 u=decide (u=wd):=by
 obtain ⟨Aw,cw,rfl,_⟩:=id hw
 obtain ⟨D,hD,hcan,hDn,hlang⟩:=Cn7.word_ok7 hwl
 have hok:(Hs wd).ok:=(Cn7.w_ok hwl).tb (by rw [Cn7.w_len];omega)
 refine Ba.of_T [(0,_)] func33 rfl ntmps33 sM rfl fun w0 hs=>?_
 have hw0:=hw
 refine Wt 2 [] hs rfl<|O_s (Sa hs zeroValue37 rfl fun b2 _ hs=>Wp 12 [0,0] hs rfl<|Zy hs (Mz rfl rfl rfl oM<|Wp 5 [0] hs rfl<|Zy hs (Ce zeroValue160 rfl (pl:=[(0,256),(256,1),(257,1),(258,1)]) kR rfl (cs:=(Co (List.replicate 256 0) 256 (Vn) (Vn))) kR<|O_s (Bs hs zeroValue160 (cs:=(Co (List.replicate 256 0) 0 (Vn) (Vn))) rfl fun b5 _ hs =>O_n (Sw hs rfl Z8 Z8 (Gj rfl rfl) fun _ hs=>Wp 6 [0,0] hs rfl ?_)))))
 have hs:=hs.f1.f1
 obtain ⟨Gp0,hGp⟩:=hs.name
 subst hGp
 have hw_0:=hw
 refine Zl [0,2,4,5,16] (fun m E w=>∃ (k:Nat) (G2:Ah),Cu Gp0 G2∧k≤256∧m=256-k∧E=⟨[],[(0,.slice Aw wd.length cw),(2,Vp b2),(4,Vi ((wd.length:Nat):Int)),(5,Vp b5),(16,Vi (k:Int))]⟩∧St ⟨w0,Gp0,Bj []⟩ G2 [.blk b5 160 (Co (Ti k) 256 (Vn) (Vn)),.blk b2 37 [Vn,Vn,Vn]] w) rfl (⟨0,_,Cu.refl _,by omega,rfl,rfl,hs⟩) fun m E w hI=>?_
 obtain ⟨k,G2,hlg0,hk9,rfl,rfl,hs⟩:=hI
 have hw:=hw_0.mono hlg0
 refine Wt 2 [] hs rfl<|Zy hs (Yc rfl (fun h17=>?_) fun h17=>?_)
 ·
  refine Wp 15 [0,0,0] hs rfl<|Zy hs (Bp k underlying80 sizeOf3 rfl rfl rfl oM<|O_n (Gc hs sizeOf3 rfl rfl rfl (by rw [Cf (Vg oM)];omega) (cs':=(Co (Ti (k+1)) 256 (Vn) (Vn))) (by rw [← nV oM];exact eG (Vg oM) oM) fun _ hs =>Wp 2 [0] hs rfl<|Zy hs (Ya (s:=((k+1:Nat):Int)) rfl<|Wp 1 [] hs rfl ?_)))
  have hs:=hs.f1.f1
  refine Zx [0,2,4,5,16] rfl ⟨k+1,_,hlg0,by omega,rfl,rfl,hs⟩
 refine Wp 4 [0] hs rfl<|Wu 4 [] hs rfl<|Zy hs (Ya (s:=((wd.length+2:Nat):Int)) rfl<|Wp 2 [0] hs rfl ?_)
 obtain rfl:k=256:=by omega
 rw [nW] at hs
 have hs:=hs.nilRow 4 1
 have hs:=hs.nilRow 79 1
 have hs:=hs.f3.f2.f2.f3
 obtain ⟨Gp1,hGp⟩:=hs.name
 subst hGp
 have hw_1:=hw
 have hlg0_1:=hlg0
 refine Zl [0,2,4,5,25,26] (fun m E w=>∃ (s:Nat) (vs:List Value) (vn va:Value) (G2:Ah),Cu Gp1 G2∧s≤wd.length+2∧vs.length=s∧Dg G2 vs (zM wd s)∧m=wd.length+2-s∧E=⟨[],[(0,.slice Aw wd.length cw),(2,Vp b2),(4,Vi ((wd.length:Nat):Int)),(5,Vp b5),(25,Vi (((wd.length+2:Nat):Int))),(26,Vi (s:Int))]⟩∧St ⟨w0,Gp0,Bj []⟩ G2 [.blk b5 160 (Co (List.range 256) 256 vn va),.row 79 1 (vn) s vs,.row 4 1 (va) s (((List.range s).map fun i=>decide (i=wd.length)).map Da),.blk b2 37 [Vn,Vn,Vn]] w) rfl (⟨0,[],_,_,_,Cu.refl _,by omega,rfl,trivial,rfl,rfl,hs⟩) fun m E w hI=>?_
 obtain ⟨s,vs,vn,va,G2,hlg1,hs2,hvl,hrs,rfl,rfl,hs⟩:=hI
 have hw:=hw_1.mono hlg1
 have hlg0:=hlg0_1.mono hlg1
 refine Wt 2 [] hs rfl<|Zy hs (Yc rfl (fun h27=>?_) fun h27=>?_)
 ·
  refine Wp 13 [0,0] hs rfl<|O_s (Dw (n:=256) (m:=256) hs underlying79 Qx rfl rfl rfl oM oM oM fun b29 _ hs =>Wp 9 [0,0] hs rfl ?_)
  have hs:=hs.f4.f4.f4.f4.f4
  rw [show List.replicate 256 (Value.int .i64 0)=(bB (wd.length+1) 0).map Bl from Hy 256] at hs
  obtain ⟨Gp2,hGp⟩:=hs.name
  subst hGp
  have hw_2:=hw
  have hlg0_2:=hlg0
  have hlg1_2:=hlg1
  refine Zl [0,2,4,5,7,8,25,26,31,32] (fun m E w=>∃ (j:Nat) (G2:Ah),Cu Gp2 G2∧j≤256∧Dg G2 vs (zM wd s)∧m=256-j∧E=⟨[],[(0,.slice Aw wd.length cw),(2,Vp b2),(4,Vi ((wd.length:Nat):Int)),(5,Vp b5),(7,Vi (s:Int)),(8,Vs b29 256 256),(25,Vi (((wd.length+2:Nat):Int))),(26,Vi (s:Int)),(31,Vi 256),(32,Vi (j:Int))]⟩∧St ⟨w0,Gp0,Bj []⟩ G2 [.row 3 1 (Vs b29 256 256) 256 ((bB (wd.length+1) j).map Bl),.blk b5 160 (Co (List.range 256) 256 vn va),.row 79 1 (vn) s vs,.row 4 1 (va) s (((List.range s).map fun i=>decide (i=wd.length)).map Da),.blk b2 37 [Vn,Vn,Vn]] w) rfl (⟨0,_,Cu.refl _,by omega,hrs,rfl,rfl,hs⟩) fun m E w hI=>?_
  obtain ⟨j,G2,hlg2,hj,hrs,rfl,rfl,hs⟩:=hI
  have hw:=hw_2.mono hlg2
  have hlg0:=hlg0_2.mono hlg2
  have hlg1:=hlg1_2.mono hlg2
  refine Wt 2 [] hs rfl<|Zy hs (Yc rfl (fun h33=>?_) fun h33=>?_)
  ·
   refine Wp 15 [0,0] hs rfl<|Zy hs (Ya (s:=((wd.length+1:Nat):Int)) rfl<|Zy hs (Be (j) underlying79 sizeOf3 rfl rfl rfl oM<|O_n (Bz hs sizeOf3 rfl rfl rfl oM fun _ hs =>Wp 2 [0] hs rfl<|Zy hs (Ya (s:=((j+1:Nat):Int)) rfl<|Wp 1 [] hs rfl ?_))))
   have hs:=hs.f4.f4.f4.f4.f4
   refine Zx [0,2,4,5,7,8,25,26,31,32] rfl ⟨j+1,_,hlg2,by omega,hrs,rfl,rfl,by rw [← nX oM,Aad];exact hs⟩
  refine Wp 4 [0] hs rfl<|Wu 5 [] hs rfl<|Zy hs (Yc rfl (fun h43=>?_) fun h43=>?_)
  ·
   refine Wp 6 [0] hs rfl<|Zy hs (Ek hw s underlying22 sizeOf5 rfl rfl rfl oM fun p47 hp47=>?_)
   obtain ⟨x,hx⟩:∃ q,q=wd[s]'oM:=⟨_,rfl⟩
   rw [← hx] at hp47
   have hx8:x.toNat<256:=x.toNat_lt
   refine Zy hs (Yg rfl (hp47)<|Wp 1 [] hs rfl<|Zy hs (Ya (s:=((s+1:Nat):Int)) rfl<|Zy hs (Be (x.toNat) underlying79 sizeOf3 rfl rfl rfl (x.toNat_lt)<|O_n (Bz hs sizeOf3 rfl rfl rfl oM fun _ hs =>Wp 1 [0] hs rfl ?_))))
   obtain rfl:j=256:=by omega
   rw [bC] at hs
   obtain ⟨_,hG_hrow,hrow,hs⟩:=hs.fixRow noM
   replace hrow:=rowW_t (s:=s) oM hx hrow
   refine Wu 3 [257] hs rfl<|Zy hs (Ej 0 isAgg35 rfl rfl (Gu AaO)<|Wp 1 [] hs rfl<|O_s (Bw hs underlying35 sizeOf79 zeroValue79 rfl rfl dC dC rfl (cs:=[_]) rfl rfl fun v1 _ hs _=>?_))
   obtain ⟨_,hG55,hl55,hs⟩:=hs.fixRow noM
   refine O_s (Au hs.f1 underlying35 gA rfl dC rfl rfl (hl55) (Cp rfl) oM oM fun v2 _ hs =>Wp 1 [257] hs rfl<|O_n (Gc hs.f1 sizeOf35 rfl rfl (hs.f1.rowOne 1 rfl) Z40 (cs':=(Co (List.range 256) 256 v2 va)) (Ve AaO) fun _ hs =>Wp 3 [7,0,2,4,5,7,25,26,258] hs rfl<|Zy hs (Ej 0 isAgg30 rfl rfl (Ld AaO)<|Wp 2 [] hs rfl ?_)))
   have hGz:=hG_hrow.trans hG55
   replace hrs:=hrs.mono hGz
   replace hlg1:=hlg1.mono hGz
   replace hrow:=hrow.mono hG55
   refine Zy hs (Yc rfl (fun h62=>?_) fun h62=>?_)
   ·
    refine O_s (Bw hs underlying30 sizeOf4 zeroValue4 rfl rfl dC dC rfl (cs:=[_]) rfl rfl fun v3 _ hs _=>?_)
    obtain ⟨_,hG63,hl63,hs⟩:=hs.fixRow noM
    refine O_s (Au hs.f2 underlying30 Pw rfl dC rfl rfl (hl63) (Cp rfl) oM oM fun v4 _ hs =>Wp 1 [258] hs rfl<|O_n (Gc hs.f1 sizeOf30 rfl rfl (hs.f1.rowOne 1 rfl) Z40 (cs':=(Co (List.range 256) 256 v2 v4)) (Kj AaO) fun _ hs =>Wp 2 [0] hs rfl<|Zy hs (Ya (s:=((s+1:Nat):Int)) rfl<|Wp 1 [] hs rfl ?_)))
    have hs:=hs.f3.f2.f3.f3
    replace hrs:=hrs.mono hG63
    replace hlg1:=hlg1.mono hG63
    replace hrow:=hrow.mono hG63
    refine Zx [0,2,4,5,25,26] rfl ⟨s+1,vs++[Vs b29 256 256],_,_,_,hlg1,by omega,by rw [AaB,hvl];rfl,by rw [Py];exact Dg.snoc hrs hrow,rfl,rfl,Bh (hs.wk [_,_,_,_]) (by rw [Xl,decide_eq_true (show s=wd.length by omega)])⟩
   refine O_s (Bw hs underlying30 sizeOf4 zeroValue4 rfl rfl dC dC rfl (cs:=[_]) rfl rfl fun v5 _ hs _=>?_)
   obtain ⟨_,hG63,hl63,hs⟩:=hs.fixRow noM
   refine O_s (Au hs.f2 underlying30 Pw rfl dC rfl rfl (hl63) (Cp rfl) oM oM fun v6 _ hs =>Wp 1 [258] hs rfl<|O_n (Gc hs.f1 sizeOf30 rfl rfl (hs.f1.rowOne 1 rfl) Z40 (cs':=(Co (List.range 256) 256 v2 v6)) (Kj AaO) fun _ hs =>Wp 2 [0] hs rfl<|Zy hs (Ya (s:=((s+1:Nat):Int)) rfl<|Wp 1 [] hs rfl ?_)))
   have hs:=hs.f3.f2.f3.f3
   replace hrs:=hrs.mono hG63
   replace hlg1:=hlg1.mono hG63
   replace hrow:=hrow.mono hG63
   refine Zx [0,2,4,5,25,26] rfl ⟨s+1,vs++[Vs b29 256 256],_,_,_,hlg1,by omega,by rw [AaB,hvl];rfl,by rw [Py];exact Dg.snoc hrs hrow,rfl,rfl,Bh (hs.wk [_,_,_,_]) (by rw [Xl,decide_eq_false (show ¬ s=wd.length by omega)])⟩
  refine Wp 3 [0] hs rfl ?_
  obtain rfl:j=256:=by omega
  rw [bC] at hs
  obtain ⟨_,hG_hrow,hrow,hs⟩:=hs.fixRow noM
  replace hrow:=rowW_f (s:=s) oM hrow
  refine Wu 3 [257] hs rfl<|Zy hs (Ej 0 isAgg35 rfl rfl (Gu AaO)<|Wp 1 [] hs rfl<|O_s (Bw hs underlying35 sizeOf79 zeroValue79 rfl rfl dC dC rfl (cs:=[_]) rfl rfl fun v7 _ hs _=>?_))
  obtain ⟨_,hG55,hl55,hs⟩:=hs.fixRow noM
  refine O_s (Au hs.f1 underlying35 gA rfl dC rfl rfl (hl55) (Cp rfl) oM oM fun v8 _ hs =>Wp 1 [257] hs rfl<|O_n (Gc hs.f1 sizeOf35 rfl rfl (hs.f1.rowOne 1 rfl) Z40 (cs':=(Co (List.range 256) 256 v8 va)) (Ve AaO) fun _ hs =>Wp 3 [0,258] hs rfl<|Zy hs (Ej 0 isAgg30 rfl rfl (Ld AaO)<|Wp 2 [] hs rfl ?_)))
  have hGz:=hG_hrow.trans hG55
  replace hrs:=hrs.mono hGz
  replace hlg1:=hlg1.mono hGz
  replace hrow:=hrow.mono hG55
  refine Zy hs (Yc rfl (fun h62=>?_) fun h62=>?_)
  ·
   refine O_s (Bw hs underlying30 sizeOf4 zeroValue4 rfl rfl dC dC rfl (cs:=[_]) rfl rfl fun v9 _ hs _=>?_)
   obtain ⟨_,hG63,hl63,hs⟩:=hs.fixRow noM
   refine O_s (Au hs.f2 underlying30 Pw rfl dC rfl rfl (hl63) (Cp rfl) oM oM fun v10 _ hs =>Wp 1 [258] hs rfl<|O_n (Gc hs.f1 sizeOf30 rfl rfl (hs.f1.rowOne 1 rfl) Z40 (cs':=(Co (List.range 256) 256 v8 v10)) (Kj AaO) fun _ hs =>Wp 2 [6,0,2,4,5,25,26] hs rfl<|Zy hs (Ya (s:=((s+1:Nat):Int)) rfl<|Wp 1 [] hs rfl ?_)))
   have hs:=hs.f3.f2.f3.f3
   replace hrs:=hrs.mono hG63
   replace hlg1:=hlg1.mono hG63
   replace hrow:=hrow.mono hG63
   refine Zx [0,2,4,5,25,26] rfl ⟨s+1,vs++[Vs b29 256 256],_,_,_,hlg1,by omega,by rw [AaB,hvl];rfl,by rw [Py];exact Dg.snoc hrs hrow,rfl,rfl,Bh (hs.wk [_,_,_,_]) (by rw [Xl,decide_eq_true (show s=wd.length by omega)])⟩
  refine O_s (Bw hs underlying30 sizeOf4 zeroValue4 rfl rfl dC dC rfl (cs:=[_]) rfl rfl fun v11 _ hs _=>?_)
  obtain ⟨_,hG63,hl63,hs⟩:=hs.fixRow noM
  refine O_s (Au hs.f2 underlying30 Pw rfl dC rfl rfl (hl63) (Cp rfl) oM oM fun v12 _ hs =>Wp 1 [258] hs rfl<|O_n (Gc hs.f1 sizeOf30 rfl rfl (hs.f1.rowOne 1 rfl) Z40 (cs':=(Co (List.range 256) 256 v8 v12)) (Kj AaO) fun _ hs =>Wp 2 [6,0,2,4,5,25,26] hs rfl<|Zy hs (Ya (s:=((s+1:Nat):Int)) rfl<|Wp 1 [] hs rfl ?_)))
  have hs:=hs.f3.f2.f3.f3
  replace hrs:=hrs.mono hG63
  replace hlg1:=hlg1.mono hG63
  replace hrow:=hrow.mono hG63
  refine Zx [0,2,4,5,25,26] rfl ⟨s+1,vs++[Vs b29 256 256],_,_,_,hlg1,by omega,by rw [AaB,hvl];rfl,by rw [Py];exact Dg.snoc hrs hrow,rfl,rfl,Bh (hs.wk [_,_,_,_]) (by rw [Xl,decide_eq_false (show ¬ s=wd.length by omega)])⟩
 refine Wp 4 [0] hs rfl ?_
 obtain rfl:s=wd.length+2:=by omega
 have hs:=hs.f1
 obtain ⟨_,hG_hfn,hfn,hs⟩:=hs.fixRow noM
 have hs:=hs.f1
 obtain ⟨_,hG_hfa,hfa,hs⟩:=hs.fixRow noM
 replace hfn:=hfn.mono hG_hfa
 obtain ⟨Fn,fn,rfl,_⟩:=id hfn
 obtain ⟨Fa,fa,rfl,_⟩:=id hfa
 replace hrs:=hrs.mono (hG_hfn.trans hG_hfa)
 have hnx:LN _ _ (Hs wd).next:=Dg.fin hfn (by show _=((List.range (wd.length+2)).map _).length;rw [AaC,AaO]) hrs
 have hac:Dt _ _ (Hs wd).acc:=(show Dt _ _ ((List.range (wd.length+2)).map fun i=>decide (i=wd.length)) from by unfold Dt;rw [AaC,AaO];exact hfa)
 refine Wu 2 [] hs rfl<|Zy hs (Yk 0 rfl (Cf AaO)<|O_s (Sp (canon_ok (t:=Hs wd) ⟨_,_,rfl,AaO,hnx,hac⟩ hok hD) hs rfl fun v13 G' _ hz hG68 hs=>?_))
 obtain ⟨zc,zn,za,rfl,hzC,hzN,hzA⟩:=hz
 obtain ⟨Cz,cz,rfl⟩:=Bi.slice hzC
 obtain ⟨Nz,nz,rfl⟩:=Bi.slice hzN
 obtain ⟨Az,az,rfl,_⟩:=id hzA
 refine O_n (Sg hs.f1 rfl (rfl) fun _ hs=>Wp 2 [0] hs rfl<|As ?_)
 have hr:=hs
 refine By (vs:=[_,_]) results33 rfl ⟨Bq 0 hr isAgg37 sizeOf37 rfl (cs:=[_,_,_]) rfl rfl,rfl,trivial⟩ ?_
 try dsimp only [tup]
 exact hs.q ⟨D,_,rfl,⟨_,_,_,rfl,hzC,hzN,hzA⟩,hcan,hDn,hlang⟩
end Go.Proofs.YtmohebpaonkaeaaGreatDoor
