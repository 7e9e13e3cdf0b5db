/- Arrays' elements; the elements of a row of one's own. -/
import Derived.Test.YtcnljflihhggiaaGreatDoorExRange
namespace Go.Ex
open Go Go.RowKit
section
variable {x : Cx} {W : World → Prop} {E : Env} {K : Value → Prop} {d : Option Tmp} {ty : TypeId} {pos : String} {aft : Array Edge} {g : Option (Nat × Bool)} {c : Ctx} {G : Ghost} {H : List Res}

/-- The place of an array's element. -/
theorem Y_idxArr {o q : Operand} {t e : TypeId} {kd : IntKind} {n s b off m : Nat} {j : Int} (i : Nat) (hu : x.P.underlying t = some (.array n e)) (hs : ∀ w, (sizeOf e).run x.P w = .ok s w)
    (h1 : ev E o = some (.pointer (some ⟨b, off, none⟩))) (h2 : ev E q = some (.int kd j)) (hj : j = (i : Int)) (hlt : i < n) (hm : off + i * s = m)
    (k : K (.pointer (some ⟨b, m, none⟩))) : Y x W ⟨d, .indexAddr t o q, ty, pos, aft, g⟩ E K := by
  subst hj hm
  refine Y_of (v := .pointer (some ⟨b, off + i * s, none⟩)) (fun f hf w _ => ?_) k
  have ha : (⟨b, off, none⟩ : Addr).add (i * s) = ⟨b, off + i * s, none⟩ := by
    unfold Addr.add; split
    · rename_i h0; simp [h0]
    · rfl
  simp [execOp, hf.ev h1, hf.ev h2, Instr.indexAt, asIntOf, run_underlying hu, hs w, hlt, Instr.sureAddr, ha]
/-- The place of an element of a slice of one's own. -/
theorem Y_idxRow {o q : Operand} {t e : TypeId} {kd : IntKind} {n cap b : Nat} {j : Int} (i : Nat) (hu : x.P.underlying t = some (.slice e)) (hs : ∀ w, (sizeOf e).run x.P w = .ok 1 w)
    (h1 : ev E o = some (.slice (some ⟨b, 0, none⟩) n cap)) (h2 : ev E q = some (.int kd j)) (hj : j = (i : Int)) (hlt : i < n)
    (k : K (.pointer (some ⟨b, i, none⟩))) : Y x W ⟨d, .indexAddr t o q, ty, pos, aft, g⟩ E K := by
  subst hj
  refine Y_of (v := .pointer (some ⟨b, i, none⟩)) (fun f hf w _ => ?_) k
  have ha : (⟨b, 0, none⟩ : Addr).add (i * 1) = ⟨b, i, none⟩ := by
    rw [Nat.mul_one]
    unfold Addr.add; split
    · rename_i h0; simp [h0]
    · simp
  simp [execOp, hf.ev h1, hf.ev h2, Instr.indexAt, asIntOf, run_underlying hu, hs w, hlt]
  rw [← Nat.mul_one i, ha, Nat.mul_one]
end

section
variable {x : Cx} {Q : Exit → Env → World → Prop} {E : Env} {K : Value → World → Prop} {w : World} {d : Option Tmp} {ty : TypeId} {pos : String} {aft : Array Edge} {g : Option (Nat × Bool)} {c : Ctx} {G : Ghost} {H : List Res}
/-- A store into an element of a slice of one's own. -/
theorem S_stRow {o p : Operand} {t b i e n cap : Nat} {v : Value} {xs : List Value} (hs : St c G (.row e 1 (.slice (some ⟨b, 0, none⟩) n cap) n xs :: H) w) (hS : ∀ w, (sizeOf t).run x.P w = .ok 1 w) (h1 : ev E o = some (.pointer (some ⟨b, i, none⟩))) (h2 : ev E p = some v)
    (hone : v.oneCell' = true) (hi : i < n) (k : ∀ w', St c G (.row e 1 (.slice (some ⟨b, 0, none⟩) n cap) n (xs.set i v) :: H) w' → K undef w') : S x ⟨d, .store t o p, ty, pos, aft, g⟩ Q K E w := by
  have hown : w.ownsRow 0 e 1 (.slice (some ⟨b, 0, none⟩) n cap) n xs := hs.hold (.row e 1 _ n xs) (by simp)
  rcases hown.2 with ⟨h, _⟩ | ⟨g', cp, cur, h, h0, hh, hnc, hcm, hsz, htk⟩
  · cases h
  injection h with h1' h2' h3'
  injection h1' with h1'
  injection h1' with h1'
  subst h1' h3'
  rw [Nat.mul_one] at hsz htk
  have hb : St c G (.blk b e cur.toList :: H) w := hs.write rfl rfl rfl (Nat.le_refl _) (fun _ _ _ => rfl) (by simpa [Res.holds] using hh) (fun k hk => .inl (by have : k = b := hk; simp [Res.foot, Value.ownBlock, this]))
  refine S_st hb hS h1 h2 hone (by rw [Array.length_toList]; omega) rfl fun w' hs' => k w' ?_
  have hh' : w'.heap[b]? = some (.cells (cur.toList.set i v).toArray e (0, 0)) := hs'.hold (.blk b e _) (by simp)
  refine hs'.write rfl rfl rfl (Nat.le_refl _) (fun _ _ _ => rfl) ⟨by rw [List.length_set]; exact hown.1, .inr ⟨b, cap, _, rfl, h0, hh', hnc, hcm, by simp [hsz], ?_⟩⟩ (fun k hk => .inl (by
    have h9 : b = k := by simpa [Res.foot, Value.ownBlock] using hk
    exact h9.symm))
  rw [Nat.mul_one, ← htk]
  simp [List.take_set]
end

/-- The ways through 'c' come together in 'I'. -/
theorem T_seqJ {x : Cx} {Q : Exit → Env → World → Prop} {E : Env} {w : World} {c d : Code} (I : Env → World → Prop)
    (h : T x c (sq (fun E w => ∃ L, subL L E.l ∧ I ⟨E.d, L⟩ w) Q) E w) (h2 : ∀ E w, I E w → T x d Q E w) : T x (.seq c d) Q E w := by
  refine T_seq (T_mono h fun e E w hq => ?_)
  cases e with
  | normal => obtain ⟨L, hs, hI⟩ := hq; exact T_sub L hs (h2 _ _ hI)
  | _ => exact hq

/-- The same at a place where what follows is not in sight. -/
theorem T_joinK {x : Cx} {Q : Exit → Env → World → Prop} {E : Env} {w : World} {c : Code} (I : Env → World → Prop)
    (h : T x c (sq (fun E w => ∃ L, subL L E.l ∧ I ⟨E.d, L⟩ w) Q) E w) (h2 : ∀ D M L w, subL L M → I ⟨D, L⟩ w → Q .normal ⟨D, M⟩ w) : T x c Q E w := by
  refine T_mono h fun e E w hq => ?_
  cases e with
  | normal => obtain ⟨L, hs, hI⟩ := hq; exact h2 _ _ _ _ hs hI
  | _ => exact hq
end Go.Ex
