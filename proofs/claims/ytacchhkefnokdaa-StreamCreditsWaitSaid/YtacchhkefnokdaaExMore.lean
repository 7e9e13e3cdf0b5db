/- Arrays' elements; the elements of a row of one's own. -/
import Derived.Test.YtacchhkefnokdaaExRange
namespace Go.Ex
open Go Go.RowKit
section
variable {x : Cx} {W : World → Prop} {E : Env} {K : Value → Prop} {d : Option Tmp} {ty : TypeId} {pos : String} {aft : Array Edge} {g : Option (Nat × Bool)} {c : Ctx} {G : Ghost} {H : List Res}

/-- The place of an array's element. -/
theorem Y_idxArr {o q : Operand} {t e : TypeId} {kd : IntKind} {n s b off m : Nat} {j : Int} (i : Nat) (hu : x.P.underlying t = some (.array n e)) (hs : ∀ w, (sizeOf e).run x.P w = .ok s w)
    (h1 : ev E o = some (.pointer (some ⟨b, off, none⟩))) (h2 : ev E q = some (.int kd j)) (hj : j = (i : Int)) (hlt : i < n) (hm : off + i * s = m)
    (k : K (.pointer (some ⟨b, m, none⟩))) : Y x W ⟨d, .indexAddr t o q, ty, pos, aft, g⟩ E K := by
  subst hj hm
  refine Y_of (v := .pointer (some ⟨b, off + i * s, none⟩)) (fun f hf w _ => ?_) k
  have ha : (⟨b, off, none⟩ : Addr).add (i * s) = ⟨b, off + i * s, none⟩ := by
    unfold Addr.add; split
    · rename_i h0; simp [h0]
    · rfl
  simp [execOp, hf.ev h1, hf.ev h2, Instr.indexAt, asIntOf, run_underlying hu, hs w, hlt, Instr.sureAddr, ha]
/-- The place of an element of a slice of one's own. -/
theorem Y_idxRow {o q : Operand} {t e : TypeId} {kd : IntKind} {n cap b : Nat} {j : Int} (i : Nat) (hu : x.P.underlying t = some (.slice e)) (hs : ∀ w, (sizeOf e).run x.P w = .ok 1 w)
    (h1 : ev E o = some (.slice (some ⟨b, 0, none⟩) n cap)) (h2 : ev E q = some (.int kd j)) (hj : j = (i : Int)) (hlt : i < n)
    (k : K (.pointer (some ⟨b, i, none⟩))) : Y x W ⟨d, .indexAddr t o q, ty, pos, aft, g⟩ E K := by
  subst hj
  refine Y_of (v := .pointer (some ⟨b, i, none⟩)) (fun f hf w _ => ?_) k
  have ha : (⟨b, 0, none⟩ : Addr).add (i * 1) = ⟨b, i, none⟩ := by
    rw [Nat.mul_one]
    unfold Addr.add; split
    · rename_i h0; simp [h0]
    · simp
  simp [execOp, hf.ev h1, hf.ev h2, Instr.indexAt, asIntOf, run_underlying hu, hs w, hlt]
  rw [← Nat.mul_one i, ha, Nat.mul_one]
end
end Go.Ex
