/- Bytes out of a text, that are one's own: written, then frozen. -/
import Derived.Test.YtcnljflihhggiaaGreatDoorExLists
namespace Go.Ex
open Go Go.RowKit

section
variable {x : Cx} {E : Env} {d : Option Tmp} {ty : TypeId} {pos : String} {aft : Array Edge} {g : Option (Nat × Bool)} {c : Ctx} {G : Ghost} {H : List Res} {w : World} {Q : Exit → Env → World → Prop} {K : Value → World → Prop}
/-- The cells cs begin with the bytes s. -/
def BCells (cs : Array Value) (s : List UInt8) (cap : Nat) : Prop := cs.toList.take s.length = s.map byteV ∧ s.length ≤ cap ∧ cap ≤ maxLen ∧ s.length ≤ cs.size
theorem BCells.set {cs : Array Value} {s : List UInt8} {cap i : Nat} {b : UInt8} (h : BCells cs s cap) : BCells (cs.setIfInBounds i (byteV b)) (s.set i b) cap := by
  obtain ⟨h1, h2, h3, h4⟩ := h
  refine ⟨?_, by simpa using h2, h3, by simpa using h4⟩
  rw [List.length_set, Array.toList_setIfInBounds, List.take_set, h1, List.map_set]
theorem S_bytesObj {o : Operand} {src dst e : TypeId} {s : List UInt8} (hs : St c G H w) (h1 : x.P.underlying src = some .string) (h2 : x.P.underlying dst = some (.slice e)) (h3 : x.P.underlying e = some (.int .u8))
    (ho : ev E o = some (.string ⟨s.toArray⟩)) (hl : s.length ≤ 100000000)
    (kk : ∀ b cap cs w', BCells cs s cap → St c G (.obj b (.cells cs e (cs.size, cs.size + 1)) :: H) w' → K (.slice (some ⟨b, 0, none⟩) s.length cap) w') : S x ⟨d, .convert src dst o, ty, pos, aft, g⟩ Q K E w := by
  have hr := Lib.run_convert_string_bytes (P := x.P) w src dst e ⟨s.toArray⟩ h1 h2 h3
  have hsz : (⟨s.toArray⟩ : ByteArray).size = s.length := by simp [ByteArray.size]
  have hgc := grownCap_ge w s.length 0 e
  have hcm := grownCap_le_maxLen w s.length 0 e (by unfold maxLen; omega)
  have hnew := Lib.bytesWorld_at_new w e ⟨s.toArray⟩
  have hpre : BCells (Lib.bytesCells w e ⟨s.toArray⟩) s (grownCap w s.length 0 e) := by
    refine ⟨?_, hgc, hcm, ?_⟩
    · unfold Lib.bytesCells
      rw [Array.toList_append]
      rw [List.take_append_of_le_length (by simp)]
      rw [List.take_of_length_le (by simp)]
      simp [byteV]
    · unfold Lib.bytesCells
      rw [Array.size_append]
      have : s.length ≤ (Array.map (fun b : UInt8 => Value.int IntKind.u8 (b.toNat : Int)) (⟨s.toArray⟩ : ByteArray).data).size := by simp
      simp
  obtain ⟨cs, hcs⟩ : ∃ cs, cs = Lib.bytesCells w e ⟨s.toArray⟩ := ⟨_, rfl⟩
  rw [← hcs] at hnew hpre
  have hs1 : St c G (.obj w.heap.size (.cells cs e (cs.size, cs.size + 1)) :: H) (Lib.bytesWorld w e ⟨s.toArray⟩) := by
    refine St.step (w := w) (H1 := []) (H2 := [_]) (G' := G) (by simpa using hs) rfl rfl rfl (by rw [Lib.bytesWorld_size]; omega) (fun k hk _ => Lib.bytesWorld_at_old w e _ k hk) (Ghost.le.refl G) (fun k o hk => .inl hk) (fun k o hk hge => by rw [hs.ghost_none hge] at hk; cases hk) ?_ ?_ (by simp)
    · intro r hr; obtain rfl := List.mem_singleton.1 hr
      exact hnew
    · intro r hr k hk; obtain rfl := List.mem_singleton.1 hr
      obtain rfl : k = w.heap.size := hk
      exact ⟨hs.ghost_none (Nat.le_refl _), .inl (Nat.le_refl _)⟩
  refine S_val rfl fun a ha => ⟨_, _, ?_, kk _ (grownCap w s.length 0 e) _ _ hpre hs1⟩
  simp only [hsz] at hr
  simp [execOp, ha.ev ho, hr]
/-- One cell of an object of one's own. -/
theorem S_stObj {o p : Operand} {t b i e : Nat} {v : Value} {cs : Array Value} {fz : Nat × Nat} (hs : St c G (.obj b (.cells cs e fz) :: H) w) (hS : ∀ w, (sizeOf t).run x.P w = .ok 1 w) (h1 : ev E o = some (.pointer (some ⟨b, i, none⟩))) (h2 : ev E p = some v)
    (hone : v.oneCell' = true) (hi : i < cs.size) (hf : i < fz.1) (k : ∀ w', St c G (.obj b (.cells (cs.setIfInBounds i v) e fz) :: H) w' → K undef w') : S x ⟨d, .store t o p, ty, pos, aft, g⟩ Q K E w := by
  obtain ⟨f1, f2⟩ := fz
  have hb : w.heap[b]? = some (.cells cs e (f1, f2)) := hs.hold (.obj b _) (by simp)
  have hcell : w.cell? ⟨b, i, none⟩ = some cs[i] := by simp [World.cell?, hb, hi]
  have hfz : w.frozen? ⟨b, i, none⟩ = false := by
    simp only [World.frozen?, hb]
    rw [decide_eq_false (by show ¬ f1 ≤ i; dsimp only at hf; omega)]; rfl
  have hcells : v.cells = #[v] := by cases v <;> simp [Value.oneCell'] at hone <;> rfl
  have hset : (w.setCell ⟨b, i, none⟩ v).heap[b]? = some (.cells (cs.setIfInBounds i v) e (f1, f2)) := by
    simp [World.setCell, Array.getElem?_modify, hb]
  refine S_skip rfl fun a ha => ⟨w.setCell ⟨b, i, none⟩ v, ?_, k _ (hs.write rfl rfl rfl (by simp [World.setCell]) (fun k hk hne => Below.heap_setCell w _ v k hne) hset (fun k hk => .inl hk))⟩
  have hadd : (⟨b, i, none⟩ : Addr).add 0 = ⟨b, i, none⟩ := rfl
  simp [execOp, ha.ev h1, ha.ev h2, Instr.storeAt, Instr.sureAddr, storeVar, hcells, hS w, storeCells, hadd, run_store, hone, hcell, hfz]
/-- It never changes any more. -/
theorem St.fixObj {b e cap : Nat} {cs : Array Value} {fz : Nat × Nat} {s : List UInt8} (hs : St c G (.obj b (.cells cs e fz) :: H) w) (hM : ∀ k, ¬ c.M k) (h : BCells cs s cap) : ∃ G', G.le G' ∧ Bytes G' (.slice (some ⟨b, 0, none⟩) s.length cap) s ∧ St c G' H w := by
  obtain ⟨h1, h2, h3, h4⟩ := h
  have hh : w.heap[b]? = some (.cells cs e fz) := hs.hold (.obj b _) (by simp)
  obtain ⟨G', hle, hG', hs2⟩ := hs.freeze (fun k _ => hM k)
  have hg : G' b = some (.cells cs e fz) := (hG' _ rfl).trans hh
  refine ⟨G', hle, ⟨_, _, rfl, by simp, h2, h3, fun _ => ⟨_, rfl, fun j u hj => ?_⟩⟩, hs2⟩
  have hadd : (⟨b, 0, none⟩ : Addr).add j = ⟨b, j, none⟩ := by
    unfold Addr.add; split
    · rename_i h0; simp [h0]
    · simp
  have hjl : j < s.length := by
    rcases Nat.lt_or_ge j s.length with h' | h'
    · exact h'
    · rw [List.getElem?_eq_none (by simpa using h')] at hj; cases hj
  rw [hadd]
  unfold gcell
  rw [hg]
  simp only [Option.isSome_none, Bool.false_eq_true, if_false]
  rw [← h1, List.getElem?_take_of_lt hjl, Array.getElem?_toList] at hj
  exact hj
end
section
variable {x : Cx} {W : World → Prop} {E : Env} {K : Value → Prop} {d : Option Tmp} {ty : TypeId} {pos : String} {aft : Array Edge} {g : Option (Nat × Bool)}
/-- The place of an element of an array that lies anywhere. -/
theorem Y_idxArrP {o q : Operand} {t e : TypeId} {kd : IntKind} {n s : Nat} {p : Addr} {j : Int} (i : Nat) (hu : x.P.underlying t = some (.array n e)) (hs : ∀ w, (sizeOf e).run x.P w = .ok s w)
    (h1 : ev E o = some (.pointer (some p))) (h2 : ev E q = some (.int kd j)) (hj : j = (i : Int)) (hlt : i < n)
    (k : K (.pointer (some (p.add (i * s))))) : Y x W ⟨d, .indexAddr t o q, ty, pos, aft, g⟩ E K := by
  subst hj
  refine Y_of (v := .pointer (some (p.add (i * s)))) (fun f hf w _ => ?_) k
  simp [execOp, hf.ev h1, hf.ev h2, Instr.indexAt, asIntOf, run_underlying hu, hs w, hlt, Instr.sureAddr]
theorem flat_drop {k : Nat} : ∀ (cs : List (List Value)) (n : Nat), (∀ c ∈ cs, c.length = k) → (cs.drop n).flatten = cs.flatten.drop (n * k)
  | cs, 0, _ => by simp
  | [], n + 1, _ => by simp
  | c :: cs, n + 1, h => by
    have hc := h c (by simp)
    have e1 : c.drop (n * k + k) = [] := List.drop_eq_nil_of_le (by omega)
    rw [List.drop_succ_cons, flat_drop cs n fun d hd => h d (by simp [hd]), List.flatten_cons, Nat.add_mul, Nat.one_mul, List.drop_append, e1, List.nil_append, hc, Nat.add_sub_cancel]
theorem flat_take {k : Nat} : ∀ (cs : List (List Value)) (n : Nat), (∀ c ∈ cs, c.length = k) → (cs.take n).flatten = cs.flatten.take (n * k)
  | cs, 0, _ => by simp
  | [], n + 1, _ => by simp
  | c :: cs, n + 1, h => by
    have hc := h c (by simp)
    have e1 : c.take (n * k + k) = c := List.take_of_length_le (by omega)
    rw [List.take_succ_cons, List.flatten_cons, List.flatten_cons, flat_take cs n fun d hd => h d (by simp [hd]), Nat.add_mul, Nat.one_mul, List.take_append, e1, hc, Nat.add_sub_cancel]
theorem LstR.sub {α : Type} {k : Nat} {R : Ghost → List Value → α → Prop} {G : Ghost} {v : Value} {a : List α} {l h : Nat} {cs : List (List Value)} (hh : h ≤ a.length) (hl : l ≤ h) (h2 : All2 (R G) cs a) (h3 : ∀ c ∈ cs, c.length = k)
    (hv : Sl G v k (h - l) ((cs.flatten.drop (l * k)).take ((h - l) * k))) : LstR k R G v ((a.drop l).take (h - l)) := by
  refine ⟨(cs.drop l).take (h - l), ?_, (h2.drop l).take _, fun c hc => h3 c (List.mem_of_mem_drop (List.mem_of_mem_take hc))⟩
  have hl2 : ((a.drop l).take (h - l)).length = h - l := by rw [List.length_take, List.length_drop]; omega
  rw [hl2, flat_take _ _ fun c hc => h3 c (List.mem_of_mem_drop hc), flat_drop _ _ h3]
  exact hv
/-- A part of a list. -/
theorem Y_sliceS {α : Type} {k : Nat} {R : Ghost → List Value → α → Prop} {G : Ghost} {v : Value} {a : List α} {o : Operand} {lo hi : Option Operand} {t e : TypeId} (hx : LstR k R G v a) (l h : Nat) (hu : x.P.underlying t = some (.slice e)) (hs : ∀ w, (sizeOf e).run x.P w = .ok k w)
    (h1 : ev E o = some v) (hlo : bnd E lo 0 l) (hhi : bnd E hi a.length h) (hl : l ≤ h) (hh : h ≤ a.length)
    (kk : ∀ A n' c, n' = ((a.drop l).take (h - l)).length → LstR k R G (.slice A n' c) ((a.drop l).take (h - l)) → K (.slice A n' c)) : Y x W ⟨d, .slice t o lo hi none, ty, pos, aft, g⟩ E K := by
  obtain ⟨cs, hS, h2, h3⟩ := hx
  refine Y_slice l h hu hs hS h1 hlo hhi hl hh fun v' hv => ?_
  have hL := LstR.sub hh hl h2 h3 hv
  obtain ⟨A, c, rfl⟩ := LstR.slice hL
  exact kk A _ c rfl hL
end
end Go.Ex
