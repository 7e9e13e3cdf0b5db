/- Memory: a ghost of blocks that never change, and a list of what the call owns. -/
import Derived.Test.YtcnljflihhggiaaGreatDoorExDraw
import Derived.Maps.AppendAt
namespace Go.Ex
open Go Go.RowKit

abbrev Ghost := Nat → Option Obj
def Ghost.le (G G' : Ghost) : Prop := ∀ k o, G k = some o → G' k = some o
theorem Ghost.le.refl (G : Ghost) : G.le G := fun _ _ h => h
theorem Ghost.le.trans {A B C : Ghost} (h : Ghost.le A B) (k : Ghost.le B C) : Ghost.le A C := fun i o hi => k i o (h i o hi)

def gcell (G : Ghost) (a : Addr) : Option Value :=
  match G a.block with
  | some (.cells c _ _) => if a.spot.isSome then none else c[a.off]?
  | _ => none
theorem gcell_mono {G G' : Ghost} (h : G.le G') {a : Addr} {v : Value} (hv : gcell G a = some v) : gcell G' a = some v := by
  unfold gcell at *
  cases hb : G a.block with
  | none => rw [hb] at hv; cases hv
  | some o => rw [hb] at hv; rw [h _ _ hb]; exact hv

/-- What a call owns: a block of cells; a row that it appends to (nil, or at the head of a block); any other block. -/
inductive Res where
  | blk (b : Nat) (e : TypeId) (cs : List Value)
  | row (e : TypeId) (k : Nat) (v : Value) (n : Nat) (xs : List Value)
  | obj (b : Nat) (o : Obj)

def Res.foot : Res → Nat → Prop
  | .blk b _ _, k => k = b
  | .row _ _ v _ _, k => v.ownBlock = some k
  | .obj b _, k => k = b

def Res.holds (w : World) : Res → Prop
  | .blk b e cs => w.heap[b]? = some (.cells cs.toArray e (0, 0))
  | .row e k v n xs => w.ownsRow 0 e k v n xs
  | .obj b o => w.heap[b]? = some o

theorem lt_of_get {w : World} {k : Nat} {o : Obj} (h : w.heap[k]? = some o) : k < w.heap.size := by
  rcases Nat.lt_or_ge k w.heap.size with hlt | hge
  · exact hlt
  · rw [Array.getElem?_eq_none hge] at h; cases h

theorem Res.lt {w : World} {r : Res} (h : r.holds w) {k : Nat} (hk : r.foot k) : k < w.heap.size := by
  cases r with
  | blk b e cs => cases hk; exact lt_of_get h
  | obj b o => cases hk; exact lt_of_get h
  | row e s v n xs =>
    rcases h.2 with ⟨rfl, _⟩ | ⟨g, cap, cur, rfl, _, hh, _⟩
    · cases hk
    · have : g = k := by simpa [Res.foot, Value.ownBlock] using hk
      subst this; exact lt_of_get hh

theorem Res.keep {w w' : World} {r : Res} (h : r.holds w) (hk : ∀ k, r.foot k → w'.heap[k]? = w.heap[k]?) : r.holds w' := by
  cases r with
  | blk b e cs => exact (hk b rfl).trans h
  | obj b o => exact (hk b rfl).trans h
  | row e s v n xs =>
    refine ⟨h.1, ?_⟩
    rcases h.2 with h2 | ⟨g, cap, cur, rfl, hb, hh, hr⟩
    · exact .inl h2
    · exact .inr ⟨g, cap, cur, rfl, hb, (hk g rfl).trans hh, hr⟩

/-- The call: the world at its beginning, what is given as unchanging then, the blocks that it may write. -/
structure Ctx where
  w0 : World
  G0 : Ghost
  M : Nat → Prop

structure St (c : Ctx) (G : Ghost) (H : List Res) (w : World) : Prop where
  os : w.os = c.w0.os
  tape : w.tape = c.w0.tape
  output : w.output = c.w0.output
  size : c.w0.heap.size ≤ w.heap.size
  old : ∀ k, k < c.w0.heap.size → ¬ c.M k → w.heap[k]? = c.w0.heap[k]?
  le : c.G0.le G
  new : ∀ k o, G k = some o → c.G0 k = some o ∨ c.w0.heap.size ≤ k
  ghost : ∀ k o, G k = some o → w.heap[k]? = some o
  hold : ∀ r ∈ H, r.holds w
  off : ∀ r ∈ H, ∀ k, r.foot k → G k = none ∧ (c.w0.heap.size ≤ k ∨ c.M k)
  apart : H.Pairwise fun r s => ∀ k, r.foot k → ¬ s.foot k

section
variable {c : Ctx} {G G' : Ghost} {H H' : List Res} {w w' : World}

theorem St.ghost_lt (h : St c G H w) {k : Nat} {o : Obj} (hk : G k = some o) : k < w.heap.size := lt_of_get (h.ghost k o hk)
theorem St.ghost_none (h : St c G H w) {k : Nat} (hk : w.heap.size ≤ k) : G k = none := by
  cases hg : G k with
  | none => rfl
  | some o => exact absurd (h.ghost_lt hg) (by omega)

theorem St.cell (h : St c G H w) {a : Addr} {v : Value} (hv : gcell G a = some v) : w.cell? a = some v := by
  unfold gcell at hv
  unfold World.cell?
  cases hb : G a.block with
  | none => rw [hb] at hv; cases hv
  | some o => rw [hb] at hv; rw [h.ghost _ _ hb]; exact hv

theorem St.drew (h : St c G H w) : St c G H { w with drawn := w.drawn + 1 } :=
  ⟨h.os, h.tape, h.output, h.size, h.old, h.le, h.new, h.ghost, h.hold, h.off, h.apart⟩

/-- Any step: what H1 covers may have changed into H2; all else stays. -/
theorem St.step {H1 H2 : List Res} (h : St c G (H1 ++ H) w) (hos : w'.os = w.os) (htape : w'.tape = w.tape) (hout : w'.output = w.output) (hsize : w.heap.size ≤ w'.heap.size)
    (hkeep : ∀ k, k < w.heap.size → (∀ r ∈ H1, ¬ r.foot k) → w'.heap[k]? = w.heap[k]?)
    (hle : G.le G') (hnew : ∀ k o, G' k = some o → G k = some o ∨ w.heap.size ≤ k) (hghost : ∀ k o, G' k = some o → w.heap.size ≤ k → w'.heap[k]? = some o)
    (hhold : ∀ r ∈ H2, r.holds w') (hoff : ∀ r ∈ H2, ∀ k, r.foot k → G' k = none ∧ (w.heap.size ≤ k ∨ ∃ s ∈ H1, s.foot k))
    (hapart : H2.Pairwise fun r s => ∀ k, r.foot k → ¬ s.foot k) : St c G' (H2 ++ H) w' := by
  have hpw := List.pairwise_append.1 h.apart
  have hfar : ∀ r ∈ H, ∀ k, r.foot k → k < w.heap.size ∧ w'.heap[k]? = w.heap[k]? := fun r hr k hk => by
    have hlt := Res.lt (h.hold r (List.mem_append_right _ hr)) hk
    exact ⟨hlt, hkeep k hlt fun s hs hsk => hpw.2.2 s hs r hr k hsk hk⟩
  refine ⟨hos.trans h.os, htape.trans h.tape, hout.trans h.output, Nat.le_trans h.size hsize, fun k hk hM => ?_, h.le.trans hle, fun k o hk => ?_, fun k o hk => ?_, fun r hr => ?_, fun r hr k hk => ?_, ?_⟩
  · rw [hkeep k (Nat.lt_of_lt_of_le hk h.size) fun r hr hrk => ?_]
    · exact h.old k hk hM
    · rcases (h.off r (List.mem_append_left _ hr) k hrk).2 with h1 | h1
      · omega
      · exact hM h1
  · rcases hnew k o hk with h1 | h1
    · exact h.new k o h1
    · exact .inr (Nat.le_trans h.size h1)
  · rcases Nat.lt_or_ge k w.heap.size with hlt | hge
    · rcases hnew k o hk with h1 | h1
      · rw [hkeep k hlt fun r hr hrk => ?_]
        · exact h.ghost k o h1
        · have := (h.off r (List.mem_append_left _ hr) k hrk).1
          rw [h1] at this; cases this
      · omega
    · exact hghost k o hk hge
  · rcases List.mem_append.1 hr with hr | hr
    · exact hhold r hr
    · exact Res.keep (h.hold r (List.mem_append_right _ hr)) fun k hk => (hfar r hr k hk).2
  · rcases List.mem_append.1 hr with hr | hr
    · obtain ⟨h1, h2⟩ := hoff r hr k hk
      refine ⟨h1, ?_⟩
      rcases h2 with h2 | ⟨s, hs, hsk⟩
      · exact .inl (Nat.le_trans h.size h2)
      · exact (h.off s (List.mem_append_left _ hs) k hsk).2
    · obtain ⟨h1, h2⟩ := h.off r (List.mem_append_right _ hr) k hk
      refine ⟨?_, h2⟩
      cases hg : G' k with
      | none => rfl
      | some o =>
        rcases hnew k o hg with h3 | h3
        · rw [h1] at h3; cases h3
        · exact absurd (hfar r hr k hk).1 (by omega)
  · refine List.pairwise_append.2 ⟨hapart, hpw.2.1, fun r hr s hs k hk hsk => ?_⟩
    obtain ⟨_, h2⟩ := hoff r hr k hk
    rcases h2 with h2 | ⟨q, hq, hqk⟩
    · exact absurd (hfar s hs k hsk).1 (by omega)
    · exact hpw.2.2 q hq s hs k hqk hsk

theorem perm_front {α : Type} : ∀ {H : List α} (i : Nat) {r : α}, H[i]? = some r → (r :: H.eraseIdx i).Perm H
  | [], _, _, h => by cases h
  | a :: H, 0, r, h => by obtain rfl : a = r := by simpa using h
                          exact List.Perm.refl _
  | a :: H, i + 1, r, h => (List.Perm.swap a r _).trans ((perm_front i (by simpa using h)).cons a)

theorem Ghost.le_self (h : St c G H w) : c.G0.le G := h.le

/-- The i-th resource comes to the front. -/
theorem St.front (i : Nat) {r : Res} (h : St c G H w) (hi : H[i]? = some r) (hH : r :: H.eraseIdx i = H') : St c G H' w := by
  subst hH
  have hp : (r :: H.eraseIdx i).Perm H := by
    exact perm_front i hi
  refine ⟨h.os, h.tape, h.output, h.size, h.old, h.le, h.new, h.ghost, fun s hs => h.hold s (hp.mem_iff.1 hs), fun s hs => h.off s (hp.mem_iff.1 hs), ?_⟩
  exact (hp.pairwise_iff (fun {a b} hab k hk hk' => hab k hk' hk)).2 h.apart

/-- Forget the first resource. -/
theorem St.drop {r : Res} (h : St c G (r :: H) w) : St c G H w :=
  ⟨h.os, h.tape, h.output, h.size, h.old, h.le, h.new, h.ghost, fun s hs => h.hold s (List.mem_cons_of_mem _ hs), fun s hs => h.off s (List.mem_cons_of_mem _ hs), h.apart.of_cons⟩

/-- A new block. -/
theorem St.alloc (h : St c G H w) (o : Obj) {r : Res} (hr : r.holds (w.alloc o)) (hf : ∀ k, r.foot k → k = w.heap.size) : St c G (r :: H) (w.alloc o) := by
  refine St.step (w := w) (H1 := []) (H2 := [r]) (G' := G) (w' := w.alloc o) (by simpa using h) rfl rfl rfl (by simp) (fun k hk _ => Below.heap_alloc w o k hk) (Ghost.le.refl G) (fun k o hk => .inl hk) (fun k o hk hge => by rw [h.ghost_none hge] at hk; cases hk) ?_ ?_ (by simp)
  · intro s hs; obtain rfl : s = r := by simpa using hs
    exact hr
  · intro s hs k hk; obtain rfl : s = r := by simpa using hs
    have := hf k hk
    subst this
    exact ⟨h.ghost_none (Nat.le_refl _), .inl (Nat.le_refl _)⟩

/-- The first resource is written. -/
theorem St.write {r r' : Res} (h : St c G (r :: H) w) (hos : w'.os = w.os) (htape : w'.tape = w.tape) (hout : w'.output = w.output) (hsize : w.heap.size ≤ w'.heap.size)
    (hkeep : ∀ k, k < w.heap.size → ¬ r.foot k → w'.heap[k]? = w.heap[k]?) (hr : r'.holds w') (hf : ∀ k, r'.foot k → r.foot k ∨ w.heap.size ≤ k) : St c G (r' :: H) w' := by
  refine St.step (H1 := [r]) (H2 := [r']) (G' := G) (by simpa using h) hos htape hout hsize (fun k hk hk' => hkeep k hk (hk' r (by simp))) (Ghost.le.refl G) (fun k o hk => .inl hk) (fun k o hk hge => by rw [h.ghost_none hge] at hk; cases hk) ?_ ?_ (by simp)
  · intro s hs; obtain rfl : s = r' := by simpa using hs
    exact hr
  · intro s hs k hk; obtain rfl : s = r' := by simpa using hs
    rcases hf k hk with h1 | h1
    · exact ⟨(h.off r (by simp) k h1).1, .inr ⟨r, by simp, h1⟩⟩
    · exact ⟨h.ghost_none h1, .inl h1⟩

/-- Less is known to hold. -/
theorem St.weak (h : St c G' H' w) (h0 : c.G0.le G) (hG : G.le G') (hH : H.Sublist H') : St c G H w :=
  ⟨h.os, h.tape, h.output, h.size, h.old, h0, fun k o hk => h.new k o (hG k o hk), fun k o hk => h.ghost k o (hG k o hk), fun r hr => h.hold r (hH.subset hr),
    fun r hr k hk => by
      obtain ⟨h1, h2⟩ := h.off r (hH.subset hr) k hk
      refine ⟨?_, h2⟩
      cases hg : G k with
      | none => rfl
      | some o => (rw [hG k o hg] at h1; cases h1)
    , h.apart.sublist hH⟩

theorem St.done (h : St c G H w) : St c G [] w := h.weak h.le (Ghost.le.refl G) (List.nil_sublist _)

/-- A row that is still nil. -/
theorem St.nilRow (h : St c G H w) (e k : Nat) : St c G (.row e k (.slice none 0 0) 0 [] :: H) w :=
  ⟨h.os, h.tape, h.output, h.size, h.old, h.le, h.new, h.ghost, fun r hr => by
      rcases List.mem_cons.1 hr with rfl | hr
      · exact World.ownsRow_nil w 0 e k
      · exact h.hold r hr, fun r hr j hj => by
      rcases List.mem_cons.1 hr with rfl | hr
      · cases hj
      · exact h.off r hr j hj, List.pairwise_cons.2 ⟨fun s _ k hk => (by cases hk), h.apart⟩⟩

open Classical in
/-- From now on the first resource never changes. -/
theorem St.freeze {r : Res} (h : St c G (r :: H) w) (hM : ∀ k, r.foot k → ¬ c.M k) :
    ∃ G', G.le G' ∧ (∀ k, r.foot k → G' k = w.heap[k]?) ∧ St c G' H w := by
  refine ⟨fun k => if r.foot k then w.heap[k]? else G k, fun k o hk => ?_, fun k hk => by simp [hk], ?_⟩
  · have : ¬ r.foot k := fun hf => by
      have := (h.off r (by simp) k hf).1
      rw [hk] at this; cases this
    simpa [this] using hk
  · have hpw := List.pairwise_cons.1 h.apart
    refine ⟨h.os, h.tape, h.output, h.size, h.old, fun k o hk => ?_, fun k o hk => ?_, fun k o hk => ?_, fun s hs => h.hold s (by simp [hs]), fun s hs k hk => ?_, hpw.2⟩
    · have hg := h.le k o hk
      have : ¬ r.foot k := fun hf => by
        have := (h.off r (by simp) k hf).1
        rw [hg] at this; cases this
      simpa [this] using hg
    · by_cases hf : r.foot k
      · rcases (h.off r (by simp) k hf).2 with h1 | h1
        · exact .inr h1
        · exact absurd h1 (hM k hf)
      · simp [hf] at hk; exact h.new k o hk
    · by_cases hf : r.foot k
      · simpa [hf] using hk
      · simp [hf] at hk; exact h.ghost k o hk
    · have hnf : ¬ r.foot k := fun hf => hpw.1 s hs k hf hk
      simp only [hnf, if_false]
      exact h.off s (by simp [hs]) k hk
end

section
variable {x : Cx} {ops : Array Oper} {Q : Exit → Env → World → Prop} {E : Env} {w : World} {c : Ctx} {G G' : Ghost} {H H' : List Res}
theorem T_drawS {id : Nat} {l : List Oper} (pre : List Nat) (_hs : St c G H w) (hm : drawOk x.P x.N l.toArray = true)
    (h : A x l.toArray pre (St c G H) Q l.length (Array.replicate l.length false) E { w with drawn := w.drawn + 1 }) : T x (.region id l.toArray true) Q E w := T_draw pre _ hm h
/-- From here on the state at hand holds. -/
theorem A_moreS {pre : List Nat} {fuel : Nat} {listed : Array Bool} (_hs : St c G' H' w) (h0 : c.G0.le G) (hG : G.le G') (hH : H.Sublist H') (h : A x ops pre (St c G' H') Q fuel listed E w) : St c G H w ∧ A x ops pre (St c G H) Q fuel listed E w :=
  ⟨_hs.weak h0 hG hH, A_more _ (fun _ h => h.weak h0 hG hH) h⟩
end

/-! ### Slices that never change -/

/-- The slice value v, of n elements of k cells each, reads as the cells xs. -/
def Sl (G : Ghost) (v : Value) (k n : Nat) (xs : List Value) : Prop :=
  ∃ A c, v = .slice A n c ∧ xs.length = n * k ∧ n ≤ c ∧ c ≤ maxLen ∧ (0 < n → ∃ a, A = some a ∧ ∀ j u, xs[j]? = some u → gcell G (a.add j) = some u)

theorem Sl.mono {G G' : Ghost} (h : G.le G') {v : Value} {k n : Nat} {xs : List Value} (hs : Sl G v k n xs) : Sl G' v k n xs := by
  obtain ⟨A, c, h1, h2, h3, h4, h5⟩ := hs
  refine ⟨A, c, h1, h2, h3, h4, fun hn => ?_⟩
  obtain ⟨a, ha, hc⟩ := h5 hn
  exact ⟨a, ha, fun j u hj => gcell_mono h (hc j u hj)⟩
theorem Sl.nil (G : Ghost) (k : Nat) : Sl G (.slice none 0 0) k 0 [] := ⟨none, 0, rfl, by simp, Nat.le_refl _, Nat.zero_le _, fun h => absurd h (by omega)⟩
theorem Sl.len {G : Ghost} {v : Value} {k n : Nat} {xs : List Value} (h : Sl G v k n xs) : xs.length = n * k := by obtain ⟨_, _, _, h, _⟩ := h; exact h

theorem addr_add_add (a : Addr) (i j : Nat) : (a.add i).add j = a.add (i + j) := by
  unfold Addr.add
  by_cases hi : i = 0 <;> by_cases hj : j = 0 <;> simp [hi, hj, Nat.add_assoc]
theorem addr_add_block (a : Addr) (i : Nat) : (a.add i).block = a.block := by
  unfold Addr.add; split <;> rfl

/-- An owned row that has been frozen reads as what it held. -/
theorem Sl.of_row {G : Ghost} {w : World} {e : TypeId} {k n : Nat} {v : Value} {xs : List Value} (h : w.ownsRow 0 e k v n xs) (hG : ∀ b, v.ownBlock = some b → G b = w.heap[b]?) : Sl G v k n xs := by
  rcases h.2 with ⟨rfl, rfl⟩ | ⟨g, cap, cur, rfl, _, hh, hnc, hcm, hsz, htake⟩
  · have : xs = [] := List.eq_nil_of_length_eq_zero (by simpa using h.1)
    subst this
    exact Sl.nil G k
  · refine ⟨some ⟨g, 0, none⟩, cap, rfl, h.1, hnc, hcm, fun _ => ⟨_, rfl, fun j u hj => ?_⟩⟩
    have hg := (hG g rfl).trans hh
    unfold gcell
    rw [addr_add_block, hg]
    have hadd : ((⟨g, 0, none⟩ : Addr).add j).off = j ∧ ((⟨g, 0, none⟩ : Addr).add j).spot = none := by
      unfold Addr.add; split
      · rename_i h0; subst h0; exact ⟨rfl, rfl⟩
      · exact ⟨by simp, rfl⟩
    simp only [hadd.1, hadd.2, Option.isSome_none, Bool.false_eq_true, if_false]
    rw [← htake] at hj
    have hjl : j < n * k := by
      rcases Nat.lt_or_ge j (n * k) with h' | h'
      · exact h'
      · rw [List.getElem?_eq_none (by simp; omega)] at hj; cases hj
    rw [List.getElem?_take_of_lt hjl] at hj
    simpa using hj

theorem Sl.of_blk {G : Ghost} {b e : Nat} {cs : List Value} {f : Nat × Nat} (h : G b = some (.cells cs.toArray e f)) {k n : Nat} (hl : cs.length = n * k) (hm : n ≤ maxLen) : Sl G (.slice (some ⟨b, 0, none⟩) n n) k n cs := by
  refine ⟨some ⟨b, 0, none⟩, n, rfl, hl, Nat.le_refl _, hm, fun _ => ⟨_, rfl, fun j u hj => ?_⟩⟩
  have hadd : ((⟨b, 0, none⟩ : Addr).add j).off = j ∧ ((⟨b, 0, none⟩ : Addr).add j).spot = none := by
    unfold Addr.add; split
    · rename_i h0; subst h0; exact ⟨rfl, rfl⟩
    · exact ⟨by simp, rfl⟩
  unfold gcell
  rw [addr_add_block, h]
  simp only [hadd.1, hadd.2, Option.isSome_none, Bool.false_eq_true, if_false]
  simpa using hj

/-! ### Contracts -/

def feet (H : List Res) : Nat → Prop := fun k => ∃ r ∈ H, r.foot k

/-- The call of f with these arguments, what is named in G unchanging and H owned, returns; its value, the grown ghost and what is owned then are as R says; nothing else has changed. -/
def FnOk (P : Program) (f : FuncId) (args : List Value) (G : Ghost) (H : List Res) (R : Value → Ghost → List Res → Prop) : Prop :=
  ∀ w, St ⟨w, G, feet H⟩ G H w → Calls P f args.toArray w fun e w' => ∃ v G' H', e = .returned v ∧ St ⟨w, G, feet H⟩ G' H' w' ∧ R v G' H'

theorem FnOk.mono {P : Program} {f : FuncId} {args : List Value} {G : Ghost} {H : List Res} {R R' : Value → Ghost → List Res → Prop} (h : FnOk P f args G H R)
    (hr : ∀ v G' H', G.le G' → R v G' H' → R' v G' H') : FnOk P f args G H R' := fun w hw =>
  (h w hw).mono fun _ _ ⟨v, G', H', he, hs, hR⟩ => ⟨v, G', H', he, hs, hr v G' H' hs.le hR⟩

/-- How a caller takes it. -/
theorem FnOk.call {P : Program} {f : FuncId} {args : List Value} {G : Ghost} {H1 H : List Res} {R : Value → Ghost → List Res → Prop} (h : FnOk P f args G H1 R) {c : Ctx} {w : World} (hs : St c G (H1 ++ H) w) :
    Calls P f args.toArray w fun e w' => ∃ v G' H', e = .returned v ∧ G.le G' ∧ St c G' (H' ++ H) w' ∧ R v G' H' := by
  have hpw := List.pairwise_append.1 hs.apart
  have h0 : St ⟨w, G, feet H1⟩ G H1 w := ⟨rfl, rfl, rfl, Nat.le_refl _, fun _ _ _ => rfl, Ghost.le.refl G, fun k o hk => .inl hk, hs.ghost, fun r hr => hs.hold r (List.mem_append_left _ hr),
    fun r hr k hk => ⟨(hs.off r (List.mem_append_left _ hr) k hk).1, .inr ⟨r, hr, hk⟩⟩, hpw.1⟩
  refine (h w h0).mono fun e w' ⟨v, G', H', he, h', hR⟩ => ⟨v, G', H', he, h'.le, ?_, hR⟩
  refine St.step hs h'.os h'.tape h'.output h'.size (fun k hk hk' => h'.old k hk (fun ⟨r, hr, hrk⟩ => hk' r hr hrk)) h'.le h'.new (fun k o hk _ => h'.ghost k o hk) h'.hold ?_ h'.apart
  intro r hr k hk
  obtain ⟨h1, h2⟩ := h'.off r hr k hk
  exact ⟨h1, h2⟩

/-- Nothing that came in may be written. -/
theorem noM {w : World} {G : Ghost} {v : Value} : ∀ b, v.ownBlock = some b → ¬ (⟨w, G, feet []⟩ : Ctx).M b := fun _ _ h => by
  obtain ⟨r, hr, _⟩ := h
  cases hr

/-- What lies apart from a block that came in may not be written by the caller's leave: it is the call's own. -/
theorem noMi {w w0 : World} {G G0 : Ghost} {r : Res} {H : List Res} {b e e0 : Nat} {cs cs0 : List Value} (i : Nat) (hs : St ⟨w0, G0, feet [.blk b e0 cs0]⟩ G (r :: H) w) (hi : H[i]? = some (.blk b e cs)) : ∀ k, r.foot k → ¬ (⟨w0, G0, feet [.blk b e0 cs0]⟩ : Ctx).M k := by
  intro k hk hM
  obtain ⟨s, hs', hsk⟩ := hM
  obtain rfl : s = .blk b e0 cs0 := by simpa using hs'
  obtain rfl : k = b := hsk
  exact (List.pairwise_cons.1 hs.apart).1 _ (List.mem_of_getElem? hi) k hk rfl

/-! ### The body -/

/-- What a function's body must come to. -/
def Rt (P : Program) (N : Nat) (fn : Func) (R : Value → World → Prop) : Exit → Env → World → Prop
  | .normal, E, w | .ret, E, w => E.d = [] ∧ ∃ v, (∀ a, Ag N E a → (results fn a.tmps).run P w = .ok v w) ∧ R v w
  | _, _, _ => False

def enumL : Nat → List Value → List (Nat × Value)
  | _, [] => []
  | i, v :: vs => (i, v) :: enumL (i + 1) vs

theorem enumL_get : ∀ (vs : List Value) (i t : Nat) (v : Value), eget (enumL i vs) t = some v → i ≤ t ∧ vs[t - i]? = some v
  | [], _, _, _, h => by cases h
  | u :: vs, i, t, v, h => by
    simp only [enumL, eget] at h
    cases hb : Nat.beq i t with
    | true =>
      rw [hb] at h
      obtain rfl := Nat.eq_of_beq_eq_true hb
      simpa using h
    | false =>
      rw [hb] at h
      have hne := Nat.ne_of_beq_eq_false hb
      obtain ⟨h1, h2⟩ := enumL_get vs (i + 1) t v (by simpa using h)
      refine ⟨by omega, ?_⟩
      rw [show t - i = (t - (i + 1)) + 1 by omega]
      simpa using h2

theorem calls_of_T {P : Program} {f : FuncId} {fn : Func} {N : Nat} {c : Code} {args : List Value} {w : World} {R : Value → World → Prop} {L : List (Nat × Value)}
    (hf : P.funcs[f]? = some fn) (hb : fn.body = some c) (hN : fn.ntmps = N) (hn : args.length ≤ N) (hL : enumL 0 args = L)
    (h : T ⟨P, N, none⟩ c (Rt P N fn R) ⟨[], L⟩ w) : Calls P f args.toArray w fun e w' => ∃ v, e = .returned v ∧ R v w' := by
  subst hL
  refine (callsIn_wide (n := 0)).1 (callsIn_of_wp hf hb trivial ?_ rfl)
  have ha : Ag N ⟨[], enumL 0 args⟩ { tmps := args.toArray ++ Array.replicate (fn.ntmps - args.toArray.size) undef, defers := [] } := by
    refine ⟨by simp [hN]; omega, rfl, fun t v ht => ?_⟩
    obtain ⟨_, h2⟩ := enumL_get args 0 t v ht
    have hlt : t < args.length := by
      rcases Nat.lt_or_ge t args.length with h' | h'
      · exact h'
      · rw [List.getElem?_eq_none (by omega)] at h2; cases h2
    rw [Array.getElem?_append_left (by simpa using hlt)]
    simpa using h2
  refine wpIn_mono (h _ ha) ?_
  rintro e a' w' ⟨E, hE, hq⟩
  cases e <;> simp only [Rt] at hq <;> try exact hq.elim
  all_goals
    obtain ⟨hd, v, hv, hR⟩ := hq
    exact ⟨hE.defs.trans hd, v, hv a' hE, v, rfl, hR⟩

theorem FnOk.of_T {P : Program} {f : FuncId} {fn : Func} {N : Nat} {c : Code} {args : List Value} {G : Ghost} {H : List Res} {R : Value → Ghost → List Res → Prop} (L : List (Nat × Value))
    (hf : P.funcs[f]? = some fn) (hb : fn.body = some c) (hN : fn.ntmps = N) (hn : args.length ≤ N) (hL : enumL 0 args = L)
    (h : ∀ w, St ⟨w, G, feet H⟩ G H w → T ⟨P, N, none⟩ c (Rt P N fn fun v w' => ∃ G' H', St ⟨w, G, feet H⟩ G' H' w' ∧ R v G' H') ⟨[], L⟩ w) : FnOk P f args G H R := fun w hw =>
  (calls_of_T hf hb hN hn hL (h w hw)).mono fun _ _ ⟨v, he, G', H', hs, hR⟩ => ⟨v, G', H', he, hs, hR⟩
end Go.Ex
