/- Slices of anything: elements of k cells each. -/
import Derived.Test.YtcnljflihhggiaaGreatDoorExWords
import Derived.Lib.SliceRun
import Derived.Lib.ConvBytes
namespace Go.Ex
open Go Go.RowKit

/-- The slice value v reads as the list l: each element's k cells stand in R to it. -/
def LstR {α : Type} (k : Nat) (R : Ghost → List Value → α → Prop) (G : Ghost) (v : Value) (l : List α) : Prop :=
  ∃ cs : List (List Value), Sl G v k l.length cs.flatten ∧ All2 (R G) cs l ∧ ∀ c ∈ cs, c.length = k
theorem LstR.mono {α : Type} {k : Nat} {R : Ghost → List Value → α → Prop} {G G' : Ghost} (hR : ∀ c a, R G c a → R G' c a) (h : G.le G') {v : Value} {l : List α} (hl : LstR k R G v l) : LstR k R G' v l := by
  obtain ⟨cs, h1, h2, h3⟩ := hl
  exact ⟨cs, h1.mono h, All2.mono (fun a b => hR a b) h2, h3⟩
theorem LstR.slice {α : Type} {k : Nat} {R : Ghost → List Value → α → Prop} {G : Ghost} {v : Value} {l : List α} (hl : LstR k R G v l) : ∃ A c, v = .slice A l.length c := by
  obtain ⟨_, ⟨A, c, h, _⟩, _⟩ := hl
  exact ⟨A, c, h⟩
theorem LstR.nil {α : Type} {k : Nat} {R : Ghost → List Value → α → Prop} {G : Ghost} : LstR k R G (.slice none 0 0) ([] : List α) := ⟨[], Sl.nil G k, trivial, fun _ h => by cases h⟩
theorem flatten_at {k : Nat} : ∀ (cs : List (List Value)) (i : Nat) (c : List Value), (∀ c ∈ cs, c.length = k) → cs[i]? = some c → (cs.flatten.drop (i * k)).take k = c
  | [], i, c, _, h => by simp at h
  | d :: cs, 0, c, hk, h => by
    obtain rfl : d = c := by simpa using h
    have hd := hk d (by simp)
    rw [Nat.zero_mul, List.drop_zero, List.flatten_cons, List.take_append_of_le_length (by omega), List.take_of_length_le (by omega)]
  | d :: cs, i + 1, c, hk, h => by
    have hd := hk d (by simp)
    have ih := flatten_at cs i c (fun c hc => hk c (by simp [hc])) (by simpa using h)
    rw [List.flatten_cons, Nat.add_mul, Nat.one_mul, List.drop_append, List.drop_eq_nil_of_le (by omega), List.nil_append, hd, Nat.add_sub_cancel]
    exact ih
section
variable {x : Cx} {W : World → Prop} {E : Env} {K : Value → Prop} {d : Option Tmp} {ty : TypeId} {pos : String} {aft : Array Edge} {g : Option (Nat × Bool)}
theorem Y_idxS {α : Type} {k : Nat} {R : Ghost → List Value → α → Prop} {G : Ghost} {v : Value} {l : List α} {o q : Operand} {t e : TypeId} {kd : IntKind} {j : Int} (hl : LstR k R G v l) (i : Nat) (hu : x.P.underlying t = some (.slice e)) (hs : ∀ w, (sizeOf e).run x.P w = .ok k w)
    (h1 : ev E o = some v) (h2 : ev E q = some (.int kd j)) (hj : j = (i : Int)) (hlt : i < l.length)
    (kk : ∀ p c, (∀ (j : Nat) (u : Value), c[j]? = some u → gcell G (p.add j) = some u) → c.length = k → R G c l[i] → K (.pointer (some p))) : Y x W ⟨d, .indexAddr t o q, ty, pos, aft, g⟩ E K := by
  obtain ⟨cs, hS, h2a, hk⟩ := hl
  obtain ⟨c, hc, hR⟩ := All2.get i h2a hlt
  refine Y_idx i hu hs hS h1 h2 hj hlt fun p hp => kk p c ?_ (hk c (List.mem_of_getElem? hc)) hR
  intro j u hu
  have hl := hk c (List.mem_of_getElem? hc)
  have hjk : j < k := by
    rcases Nat.lt_or_ge j k with h' | h'
    · exact h'
    · rw [List.getElem?_eq_none (by omega)] at hu; cases hu
  rw [← flatten_at cs i c hk hc, List.getElem?_take_of_lt hjk, List.getElem?_drop] at hu
  exact hp j u hu
end
/-- The operation's guard was passed over itself. -/
theorem O_noU {x : Cx} {Q : Exit → Env → World → Prop} {w : World} (d : Nat) {ops : Array Oper} {t : Tmp} {op : Op} {ty : TypeId} {pos : String} {aft : Array Edge} {l : List Oper} {D : List Deferred} {L : List (Nat × Value)} {j : Nat} {b : Bool} (hj : (ops[j]?).bind (·.dst) = some d) (hb : eget L d = some undef)
    (h : O x ops Q l ⟨D, (t, undef) :: L⟩ w) : O x ops Q (⟨some t, op, ty, pos, aft, some (j, b)⟩ :: l) ⟨D, L⟩ w := by
  intro hd a ha
  have hw : Region.wanted (⟨some t, op, ty, pos, aft, some (j, b)⟩ : Oper) (yielded ops a.tmps) = false := by
    simp only [Region.wanted, yielded, hj, Option.bind_some, ha.look d _ hb]
    cases b <;> rfl
  refine wpListIn_step fun K hK => ?_
  rw [hw]
  simp only [Bool.false_eq_true, if_false]
  exact ⟨fun _ _ => trivial, hK _ _ (h (fun o' ho' => hd o' (List.mem_cons_of_mem _ ho')) _ (ha.put (some t) _ (hd _ List.mem_cons_self)))⟩
theorem St.rowForm {c : Ctx} {G : Ghost} {H : List Res} {w : World} {e k n : Nat} {v : Value} {xs : List Value} (i : Nat) (hs : St c G H w) (hi : H[i]? = some (.row e k v n xs)) (hn : 0 < n) : ∃ b cap, v = .slice (some ⟨b, 0, none⟩) n cap ∧ n ≤ cap := by
  have hr := hs.hold _ (List.mem_of_getElem? hi)
  rcases hr.2 with ⟨_, h0⟩ | ⟨b, cap, cur, rfl, _, _, h1, _⟩
  · omega
  · exact ⟨b, cap, rfl, h1⟩
theorem St.rowSl {c : Ctx} {G : Ghost} {H : List Res} {w : World} {e k n : Nat} {v : Value} {xs : List Value} (i : Nat) (hs : St c G H w) (hi : H[i]? = some (.row e k v n xs)) : ∃ A cap, v = .slice A n cap := by
  have hr := hs.hold _ (List.mem_of_getElem? hi)
  rcases hr.2 with ⟨rfl, rfl⟩ | ⟨b, cap, cur, rfl, _⟩
  · exact ⟨_, _, rfl⟩
  · exact ⟨_, cap, rfl⟩
theorem noMrow {w w0 : World} {G G0 : Ghost} {r : Res} {H : List Res} {e e' k k' n n' : Nat} {v v' : Value} {xs xs' : List Value} (i : Nat) (hs : St ⟨w0, G0, feet [.row e k v n xs]⟩ G (r :: H) w) (hi : H[i]? = some (.row e' k' v' n' xs')) (hob : v'.ownBlock = v.ownBlock) :
    ∀ k0, r.foot k0 → ¬ (⟨w0, G0, feet [.row e k v n xs]⟩ : Ctx).M k0 := by
  intro k0 hk ⟨s, hs', hsk⟩
  obtain rfl : s = .row e k v n xs := by simpa using hs'
  exact (List.pairwise_cons.1 hs.apart).1 _ (List.mem_of_getElem? hi) k0 hk (hob.trans hsk)
theorem noMin {w w0 : World} {G G0 : Ghost} {r : Res} {H H0 : List Res} (hs : St ⟨w0, G0, feet H0⟩ G (r :: H) w) (h : ∀ s ∈ H0, s ∈ H) : ∀ k, r.foot k → ¬ (⟨w0, G0, feet H0⟩ : Ctx).M k := by
  intro k hk ⟨s, hs', hsk⟩
  exact (List.pairwise_cons.1 hs.apart).1 _ (h s hs') k hk hsk
section
variable {x : Cx} {W : World → Prop} {E : Env} {K : Value → Prop} {d : Option Tmp} {ty : TypeId} {pos : String} {aft : Array Edge} {g : Option (Nat × Bool)}
/-- A byte of a constant text. -/
theorem Y_idxStr {o q : Operand} {t : TypeId} {s : ByteArray} {kd : IntKind} {j : Int} {b : UInt8} (i : Nat) (hu : x.P.underlying t = some .string) (h1 : ev E o = some (.string s)) (h2 : ev E q = some (.int kd j)) (hj : j = (i : Int)) (hb : s[i]? = some b)
    (k : K (.int .u8 (b.toNat : Int))) : Y x W ⟨d, .index t o q, ty, pos, aft, g⟩ E K := by
  subst hj
  refine Y_of (v := .int .u8 (b.toNat : Int)) (fun f hf w _ => ?_) k
  simp [execOp, hf.ev h1, hf.ev h2, Instr.index, asIntOf, run_underlying hu, hb]
/-- s[l:], s a slice at the head of a block, l less than its length. -/
theorem Y_sliceTail {o q : Operand} {t e : TypeId} {b n cp : Nat} {kd : IntKind} {j : Int} (l : Nat) (hu : x.P.underlying t = some (.slice e)) (hs : ∀ w, (sizeOf e).run x.P w = .ok 1 w) (h1 : ev E o = some (.slice (some ⟨b, 0, none⟩) n cp)) (h2 : ev E q = some (.int kd j)) (hj : j = (l : Int)) (hl : l < n) (hn : n ≤ cp)
    (k : K (.slice (some ⟨b, l, none⟩) (n - l) (cp - l))) : Y x W ⟨d, .slice t o (some q) none none, ty, pos, aft, g⟩ E K := by
  subst hj
  have hadd : (⟨b, 0, none⟩ : Addr).add l = ⟨b, l, none⟩ := by
    unfold Addr.add; split
    · rename_i h0; simp [h0]
    · simp
  refine Y_of (v := .slice (some ⟨b, l, none⟩) (n - l) (cp - l)) (fun f hf w _ => ?_) k
  simp [execOp, hf.ev h1, hf.ev h2, Instr.sliceAt, Instr.slice, Instr.sliceBounds, Instr.sliceBound, asIntOf, run_underlying hu, hs w, hadd, show l ≤ n by omega, show ¬ cp = l by omega]
end
section
variable {x : Cx} {Q : Exit → Env → World → Prop} {E : Env} {K : Value → World → Prop} {w : World} {d : Option Tmp} {ty : TypeId} {pos : String} {aft : Array Edge} {g : Option (Nat × Bool)} {c : Ctx} {G : Ghost} {H : List Res}
/-- 'clear' of one element of a row of one's own. -/
theorem S_clear1 {o : Operand} {t te b i e n cap cp : Nat} {z : Value} {xs : List Value} (hs : St c G (.row e 1 (.slice (some ⟨b, 0, none⟩) n cap) n xs :: H) w) (ht : x.P.underlying t = some (.slice te)) (hv : ∀ w, (zeroValue te).run x.P w = .ok z w) (hz : z.cells = #[z]) (hone : z.oneCell' = true)
    (h1 : ev E o = some (.slice (some ⟨b, i, none⟩) 1 cp)) (hi : i < n) (k : ∀ w', St c G (.row e 1 (.slice (some ⟨b, 0, none⟩) n cap) n (xs.set i z) :: H) w' → K (.tuple #[]) w') :
    S x ⟨d, .call { callee := .builtin .clear, args := #[o], argTypes := #[t] }, ty, pos, aft, g⟩ Q K E w := by
  have hown : w.ownsRow 0 e 1 (.slice (some ⟨b, 0, none⟩) n cap) n xs := hs.hold (.row e 1 _ n xs) (by simp)
  rcases hown.2 with ⟨h, _⟩ | ⟨g', cp', cur, h, h0, hh, hnc, hcm, hsz, htk⟩
  · cases h
  injection h with h1' h2' h3'
  injection h1' with h1'
  injection h1' with h1'
  subst h1' h3'
  rw [Nat.mul_one] at hsz htk
  have hcell : (w.cell? ⟨b, i, none⟩).isSome = true := by simp [World.cell?, hh, hsz]; omega
  have hfz : w.frozen? ⟨b, i, none⟩ = false := by simp [World.frozen?, hh]
  have hr := Lib.run_clear_slice (P := x.P) w t te ty z ht hv hz hone b i 1 cp (by omega) (by intro j hj; have : j = 0 := by omega
                                                                                              subst this; exact hcell) (by intro j hj; have : j = 0 := by omega
                                                                                                                           subst this; exact hfz)
  replace hr : (Builtin.clear_ #[t] ty #[.slice (some ⟨b, i, none⟩) 1 cp]).run x.P w = .ok (.tuple #[]) (w.setCell ⟨b, i, none⟩ z) := hr
  have hset : (w.setCell ⟨b, i, none⟩ z).heap[b]? = some (.cells (cur.set! i z) e (0, 0)) := by
    simp [World.setCell, Array.getElem?_modify, hh, Array.set!]
  refine S_val rfl fun a ha => ⟨.tuple #[], w.setCell ⟨b, i, none⟩ z, ?_, k _ ?_⟩
  · simp only [execOp, resolve, invoke, builtin]
    simp [ha.ev h1, hr]
  · refine hs.write rfl rfl rfl (by simp [World.setCell]) (fun k hk hne => Below.heap_setCell w _ z k (fun h => hne (by simp [Res.foot, Value.ownBlock]; exact h.symm))) ⟨by rw [List.length_set]; exact hown.1, .inr ⟨b, cap, _, rfl, h0, hset, hnc, hcm, by simp [hsz], ?_⟩⟩ (fun k hk => .inl hk)
    rw [Nat.mul_one, ← htk]
    simp [List.take_set]
end
section
variable {x : Cx} {E : Env} {d : Option Tmp} {ty : TypeId} {pos : String} {aft : Array Edge} {g : Option (Nat × Bool)}
/-- The place of an element of a slice that begins a block. -/
theorem Y_idxBlk {W : World → Prop} {K : Value → Prop} {o q : Operand} {t e : TypeId} {kd : IntKind} {n cap b s m : Nat} {j : Int} (i : Nat) (hu : x.P.underlying t = some (.slice e)) (hs : ∀ w, (sizeOf e).run x.P w = .ok s w)
    (h1 : ev E o = some (.slice (some ⟨b, 0, none⟩) n cap)) (h2 : ev E q = some (.int kd j)) (hj : j = (i : Int)) (hlt : i < n) (hm : i * s = m)
    (k : K (.pointer (some ⟨b, m, none⟩))) : Y x W ⟨d, .indexAddr t o q, ty, pos, aft, g⟩ E K := by
  subst hj hm
  refine Y_of (v := .pointer (some ⟨b, i * s, none⟩)) (fun f hf w _ => ?_) k
  have ha : (⟨b, 0, none⟩ : Addr).add (i * s) = ⟨b, i * s, none⟩ := by
    unfold Addr.add; split
    · rename_i h0; simp [h0]
    · simp
  simp [execOp, hf.ev h1, hf.ev h2, Instr.indexAt, asIntOf, run_underlying hu, hs w, hlt, ha]
/-- make of n elements of any size: a block of one's own. -/
theorem S_makeB {Q : Exit → Env → World → Prop} {K : Value → World → Prop} {w : World} {c : Ctx} {G : Ghost} {H : List Res} {o p : Operand} {t e : TypeId} {kd kd' : IntKind} {u : Value} {k bytes n : Nat} {cs : List Value} (hs : St c G H w) (ht : x.P.underlying t = some (.slice e)) (hi : TI x.P e u k bytes)
    (ho : ev E o = some (.int kd (n : Int))) (hp : ev E p = some (.int kd' (n : Int))) (hb : bytes * n ≤ 281474976710656) (hm : n ≤ 281474976710656) (hc : (madeCells u.cells (n * k)).toList = cs)
    (kk : ∀ b w', St c G (.blk b e cs :: H) w' → K (.slice (some ⟨b, 0, none⟩) n n) w') : S x ⟨d, .makeSlice t o p, ty, pos, aft, g⟩ Q K E w := by
  obtain ⟨i, hi, hz, hik, hib⟩ := hi
  have hr := run_make (P := x.P) w t e i u ht hi hz kd kd' (n : Int) (n : Int) (by omega) (by omega) (by
    rw [hib]
    have h : ((bytes * n : Nat) : Int) ≤ 281474976710656 := by omega
    rwa [Int.natCast_mul] at h) (by omega)
  simp only [Int.toNat_natCast, hik] at hr
  have hblk : Res.holds (w.alloc (.cells (madeCells u.cells (n * k)) e)) (.blk w.heap.size e cs) := by
    show (w.alloc _).heap[w.heap.size]? = _
    rw [heap_alloc_new, ← hc]
  refine S_val rfl fun a ha => ⟨_, _, ?_, kk w.heap.size _ (hs.alloc _ hblk (fun j hj => hj))⟩
  simp only [execOp, ha.ev ho, ha.ev hp]
  simp [hr]
end
section
variable {x : Cx} {E : Env} {d : Option Tmp} {ty : TypeId} {pos : String} {aft : Array Edge} {g : Option (Nat × Bool)}
/-- An array of its parts. -/
theorem Y_buildA {W : World → Prop} {K : Value → Prop} {t e n k : Nat} {ps : List (Nat × Operand)} {z : Value} {zs cs : List Value} {vs : List (Nat × Value)} (hu : x.P.underlying t = some (.array n e)) (hs : ∀ w, (sizeOf e).run x.P w = .ok k w) (hz : ∀ w, (zeroValue t).run x.P w = .ok z w) (hzs : z.cells.toList = zs)
    (hv : evs E ps = some vs) (hc : fillL (fun i => some (i * k, k)) zs vs = some cs) (kk : K (.agg cs.toArray)) : Y x W ⟨d, .build t ps.toArray, ty, pos, aft, g⟩ E K := by
  subst hzs
  refine Y_of (v := .agg cs.toArray) (fun a ha w _ => ?_) kk
  have hv' := evs_spec ha hv
  have hf := fill_of_L hc
  simp only [Array.toArray_toList] at hf
  simp only [execOp, Instr.build, Sem.run_bind, hz w, Result.andThen_ok, run_underlying hu w, hs w]
  simp only [List.map_toArray, hv']
  rw [hf]
  simp
/-- '[]byte(s)' of a text that is no constant. -/
theorem S_bytesOf {Q : Exit → Env → World → Prop} {K : Value → World → Prop} {w : World} {c : Ctx} {G : Ghost} {H : List Res} {o : Operand} {src dst e : TypeId} {s : List UInt8} (hs : St c G H w) (h1 : x.P.underlying src = some .string) (h2 : x.P.underlying dst = some (.slice e)) (h3 : x.P.underlying e = some (.int .u8))
    (ho : ev E o = some (.string ⟨s.toArray⟩)) (hM : ∀ k, ¬ c.M k) (hl : s.length ≤ 100000000)
    (kk : ∀ G' v w', G.le G' → Bytes G' v s → St c G' H w' → K v w') : S x ⟨d, .convert src dst o, ty, pos, aft, g⟩ Q K E w := by
  have hr := Lib.run_convert_string_bytes (P := x.P) w src dst e ⟨s.toArray⟩ h1 h2 h3
  have hsz : (⟨s.toArray⟩ : ByteArray).size = s.length := by simp [ByteArray.size]
  have hgc := grownCap_ge w s.length 0 e
  have hcm := grownCap_le_maxLen w s.length 0 e (by unfold maxLen; omega)
  have hnew := Lib.bytesWorld_at_new w e ⟨s.toArray⟩
  obtain ⟨cs, hcs⟩ : ∃ cs, cs = Lib.bytesCells w e ⟨s.toArray⟩ := ⟨_, rfl⟩
  rw [← hcs] at hnew
  have hs1 : St c G (.obj w.heap.size (.cells cs e (cs.size, cs.size + 1)) :: H) (Lib.bytesWorld w e ⟨s.toArray⟩) := by
    refine St.step (w := w) (H1 := []) (H2 := [_]) (G' := G) (by simpa using hs) rfl rfl rfl (by rw [Lib.bytesWorld_size]; omega) (fun k hk _ => Lib.bytesWorld_at_old w e _ k hk) (Ghost.le.refl G) (fun k o hk => .inl hk) (fun k o hk hge => by rw [hs.ghost_none hge] at hk; cases hk) ?_ ?_ (by simp)
    · intro r hr; obtain rfl := List.mem_singleton.1 hr
      exact hnew
    · intro r hr k hk; obtain rfl := List.mem_singleton.1 hr
      obtain rfl : k = w.heap.size := hk
      exact ⟨hs.ghost_none (Nat.le_refl _), .inl (Nat.le_refl _)⟩
  obtain ⟨G', hle, hG', hs2⟩ := hs1.freeze (fun k _ => hM k)
  have hg : G' w.heap.size = some (.cells cs e (cs.size, cs.size + 1)) := (hG' _ rfl).trans hnew
  have hb : Bytes G' (.slice (some ⟨w.heap.size, 0, none⟩) s.length (grownCap w s.length 0 e)) s := by
    refine ⟨_, _, rfl, by simp, hgc, hcm, fun _ => ⟨_, rfl, fun j u hj => ?_⟩⟩
    have hadd : (⟨w.heap.size, 0, none⟩ : Addr).add j = ⟨w.heap.size, j, none⟩ := by
      unfold Addr.add; split
      · rename_i h0; simp [h0]
      · simp
    have hjl : j < s.length := by
      rcases Nat.lt_or_ge j s.length with h' | h'
      · exact h'
      · rw [List.getElem?_eq_none (by simpa using h')] at hj; cases hj
    rw [hadd]
    unfold gcell
    rw [hg]
    simp only [Option.isSome_none, Bool.false_eq_true, if_false]
    rw [hcs]
    unfold Lib.bytesCells
    rw [Array.getElem?_append_left (by simpa using hjl)]
    simpa [byteV] using hj
  refine S_val rfl fun a ha => ⟨_, _, ?_, kk G' _ _ hle hb hs2⟩
  simp only [hsz] at hr
  simp [execOp, ha.ev ho, hr]
end
/-- A block that never changes any more, as a slice. -/
theorem Sl.ofBlk {G : Ghost} {b k n : Nat} {cs : List Value} (hl : cs.length = n * k) (hm : n ≤ maxLen) (h : ∀ (i : Nat) (v : Value), cs[i]? = some v → gcell G ⟨b, i, none⟩ = some v) : Sl G (.slice (some ⟨b, 0, none⟩) n n) k n cs := by
  refine ⟨_, _, rfl, hl, Nat.le_refl _, hm, fun _ => ⟨_, rfl, fun j u hj => ?_⟩⟩
  have hadd : (⟨b, 0, none⟩ : Addr).add j = ⟨b, j, none⟩ := by
    unfold Addr.add; split
    · rename_i h0; simp [h0]
    · simp
  rw [hadd]; exact h j u hj
theorem LstR.ofSl {α : Type} {k n : Nat} {R : Ghost → List Value → α → Prop} {G : Ghost} {v : Value} {xs : List Value} {cs : List (List Value)} {l : List α} (h : Sl G v k n xs) (hx : xs = cs.flatten) (hn : n = l.length) (h2 : All2 (R G) cs l) (h3 : ∀ c ∈ cs, c.length = k) : LstR k R G v l := by
  subst hx hn; exact ⟨cs, h, h2, h3⟩

open Classical in
/-- A row of one's own is lent: for the call it never changes. -/
theorem FnOk.lend {P : Program} {f : FuncId} {args : List Value} {G : Ghost} {e k n : Nat} {v : Value} {xs : List Value} {ρ : Value → Prop} (h : ∀ G1, G.le G1 → Sl G1 v k n xs → FnOk P f args G1 [] fun r _ H' => H' = [] ∧ ρ r) :
    FnOk P f args G [.row e k v n xs] fun r _ H' => H' = [.row e k v n xs] ∧ ρ r := by
  intro w hw
  have hh : Res.holds w (.row e k v n xs) := hw.hold (.row e k v n xs) (by simp)
  have hoff := hw.off (.row e k v n xs) (by simp)
  obtain ⟨G1, hG1⟩ : ∃ G1 : Ghost, G1 = fun j => if (Res.row e k v n xs).foot j then w.heap[j]? else G j := ⟨_, rfl⟩
  have hle : G.le G1 := fun j o hj => by
    have : ¬ (Res.row e k v n xs).foot j := fun hf => by
      have := (hoff j hf).1
      rw [hj] at this; cases this
    rw [hG1]; simpa [this] using hj
  have hSl : Sl G1 v k n xs := Sl.of_row hh fun b hb => by
    rw [hG1]
    have : (Res.row e k v n xs).foot b := hb
    simp [this]
  have hgh : ∀ j o, G1 j = some o → w.heap[j]? = some o := fun j o hj => by
    rw [hG1] at hj
    by_cases hf : (Res.row e k v n xs).foot j
    · simpa [hf] using hj
    · simp [hf] at hj; exact hw.ghost j o hj
  have h1 : St ⟨w, G1, feet []⟩ G1 [] w := ⟨rfl, rfl, rfl, Nat.le_refl _, fun _ _ _ => rfl, Ghost.le.refl _, fun _ _ hj => .inl hj, hgh, fun _ hr => (by cases hr), fun _ hr => (by cases hr), List.Pairwise.nil⟩
  refine (h G1 hle hSl w h1).mono ?_
  rintro ex w' ⟨r, G', H', rfl, h', rfl, hρ⟩
  have hold : ∀ j, j < w.heap.size → w'.heap[j]? = w.heap[j]? := fun j hj => h'.old j hj (noMb j)
  refine ⟨r, fun j => if (Res.row e k v n xs).foot j then none else G' j, [.row e k v n xs], rfl, ?_, rfl, hρ⟩
  refine ⟨h'.os, h'.tape, h'.output, h'.size, fun j hj _ => hold j hj, fun j o hj => ?_, fun j o hj => ?_, fun j o hj => ?_, fun s hs => ?_, fun s hs j hj => ?_, hw.apart⟩
  · replace hj : G j = some o := hj
    have hf : ¬ (Res.row e k v n xs).foot j := fun hf => by
      have := (hoff j hf).1
      rw [hj] at this; cases this
    simp only [hf, if_false]
    exact h'.le j o (hle j o hj)
  · by_cases hf : (Res.row e k v n xs).foot j
    · simp [hf] at hj
    · simp only [hf, if_false] at hj
      rcases h'.new j o hj with h2 | h2
      · rw [hG1] at h2; simp only [hf, if_false] at h2; exact .inl h2
      · exact .inr h2
  · by_cases hf : (Res.row e k v n xs).foot j
    · simp [hf] at hj
    · simp only [hf, if_false] at hj; exact h'.ghost j o hj
  · obtain rfl : s = .row e k v n xs := by simpa using hs
    exact Res.keep hh fun j hj => hold j (Res.lt hh hj)
  · obtain rfl : s = .row e k v n xs := by simpa using hs
    exact ⟨by simp [hj], (hoff j hj).2⟩

/-! ### a loop whose rounds are walked one by one -/
def U (x : Cx) (c : Code) (Q : Exit → Env → World → Prop) : Nat → Env → World → Prop
  | 0, _, _ => False
  | n + 1, E, w => T x c (sq (fun E w => ∃ L, subL L E.l ∧ U x c Q n ⟨E.d, L⟩ w) Q) E w
theorem U_go {x : Cx} {c : Code} {Q : Exit → Env → World → Prop} {n : Nat} {E : Env} {w : World} (h : T x c (sq (fun E w => ∃ L, subL L E.l ∧ U x c Q n ⟨E.d, L⟩ w) Q) E w) : U x c Q (n + 1) E w := h
/-- At most n rounds. -/
theorem T_loopN {x : Cx} {c : Code} {Q : Exit → Env → World → Prop} (n : Nat) {D : List Deferred} {M L : List (Nat × Value)} {w : World} (hL : subL L M) (h : U x c Q n ⟨D, L⟩ w) : T x (.loop c) Q ⟨D, M⟩ w := by
  refine T_loop (U x c Q) hL h fun n E w hI => ?_
  cases n with
  | zero => exact hI.elim
  | succ n =>
    refine T_mono hI fun e E' w' hq => ?_
    cases e with
    | normal =>
      obtain ⟨L, hs, hU⟩ := hq
      exact ⟨n, Nat.lt_succ_self n, L, hs, hU⟩
    | _ => exact hq
end Go.Ex
