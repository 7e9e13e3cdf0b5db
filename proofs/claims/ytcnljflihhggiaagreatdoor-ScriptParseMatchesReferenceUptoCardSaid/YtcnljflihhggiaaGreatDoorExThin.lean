/- Short forms of the calculus's rules, for long proofs. -/
import Derived.Test.YtcnljflihhggiaaGreatDoorExKeys
namespace Go.Ex
open Go

def egets (M : List (Nat × Value)) : List Nat → Option (List (Nat × Value))
  | [] => some []
  | k :: ks => match eget M k with
    | none => none
    | some u => match egets M ks with
      | none => none
      | some L => some ((k, u) :: L)
theorem egets_sub {M : List (Nat × Value)} : ∀ {ks : List Nat} {L : List (Nat × Value)}, egets M ks = some L → subL L M
  | [], L, h => by cases h; trivial
  | k :: ks, L, h => by
    unfold egets at h
    cases h1 : eget M k with
    | none => rw [h1] at h; cases h
    | some u =>
      rw [h1] at h; dsimp only at h
      cases h2 : egets M ks with
      | none => rw [h2] at h; cases h
      | some L2 => rw [h2] at h; cases h; exact ⟨h1, egets_sub h2⟩
theorem T_kp {x : Cx} {Q : Exit → Env → World → Prop} {w : World} {D : List Deferred} {M L : List (Nat × Value)} {c : Code} (ks : List Nat) (h : egets M ks = some L) (hT : T x c Q ⟨D, L⟩ w) : T x c Q ⟨D, M⟩ w := T_sub L (egets_sub h) hT
section
variable {x : Cx} {ops : Array Oper} {Q : Exit → Env → World → Prop} {w : World} {t : Tmp} {o : Operand} {v : Value} {ty : TypeId} {pos : String} {aft : Array Edge} {l : List Oper} {D : List Deferred} {L : List (Nat × Value)}
theorem O_m (h : ev ⟨D, L⟩ o = some v) (k : O x ops Q l ⟨D, (t, v) :: L⟩ w) : O x ops Q (⟨some t, .move o, ty, pos, aft, none⟩ :: l) ⟨D, L⟩ w := O_y (W := fun _ => True) trivial (Y_move h k)
theorem O_a (h : ev ⟨D, L⟩ o = some v) (k : O x ops Q l ⟨D, (t, v) :: L⟩ w) : O x ops Q (⟨some t, .assign o, ty, pos, aft, none⟩ :: l) ⟨D, L⟩ w := O_y (W := fun _ => True) trivial (Y_assign h k)
end
section
variable {c : Ctx} {G : Ghost} {H : List Res} {w : World} {r1 r2 r3 r4 r5 r6 r7 r8 : Res}
theorem St.f1 (h : St c G (r1 :: r2 :: H) w) : St c G (r2 :: r1 :: H) w := h.front 1 rfl rfl
theorem St.f2 (h : St c G (r1 :: r2 :: r3 :: H) w) : St c G (r3 :: r1 :: r2 :: H) w := h.front 2 rfl rfl
theorem St.f3 (h : St c G (r1 :: r2 :: r3 :: r4 :: H) w) : St c G (r4 :: r1 :: r2 :: r3 :: H) w := h.front 3 rfl rfl
theorem St.f4 (h : St c G (r1 :: r2 :: r3 :: r4 :: r5 :: H) w) : St c G (r5 :: r1 :: r2 :: r3 :: r4 :: H) w := h.front 4 rfl rfl
theorem St.f5 (h : St c G (r1 :: r2 :: r3 :: r4 :: r5 :: r6 :: H) w) : St c G (r6 :: r1 :: r2 :: r3 :: r4 :: r5 :: H) w := h.front 5 rfl rfl
theorem St.f6 (h : St c G (r1 :: r2 :: r3 :: r4 :: r5 :: r6 :: r7 :: H) w) : St c G (r7 :: r1 :: r2 :: r3 :: r4 :: r5 :: r6 :: H) w := h.front 6 rfl rfl
theorem St.f7 (h : St c G (r1 :: r2 :: r3 :: r4 :: r5 :: r6 :: r7 :: r8 :: H) w) : St c G (r8 :: r1 :: r2 :: r3 :: r4 :: r5 :: r6 :: r7 :: H) w := h.front 7 rfl rfl
end
end Go.Ex
