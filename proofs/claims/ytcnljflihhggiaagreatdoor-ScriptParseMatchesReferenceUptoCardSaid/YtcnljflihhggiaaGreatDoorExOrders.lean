/- A region that draws its order, of which an operation may panic: every order is walked. -/
import Derived.Test.YtcnljflihhggiaaGreatDoorExPanic
namespace Go.Ex
open Go Go.RowKit

def B (x : Cx) (ops : Array Oper) (Q : Exit → Env → World → Prop) (fuel : Nat) (listed : Array Bool) (E : Env) (w : World) : Prop :=
  dstsLt x.N ops.toList = true → ∀ a, Ag x.N E a → wpAnyIn (RF x.r) 0 x.P .any ops (lift x.N Q) fuel listed a w
section
variable {x : Cx} {ops : Array Oper} {Q : Exit → Env → World → Prop} {E : Env} {w : World}
theorem T_drawB {id : Nat} {l : List Oper} (hm : drawOk x.P x.N l.toArray = true) (h : B x l.toArray Q l.length (Array.replicate l.length false) E { w with drawn := w.drawn + 1 }) : T x (.region id l.toArray true) Q E w := by
  simp only [drawOk, Bool.and_eq_true] at hm
  obtain ⟨⟨⟨h1, h2⟩, h3⟩, h4⟩ := hm
  intro a ha
  refine wpIn_region_any h1 ?_
  have := h h4 a ha
  simpa using this
theorem B_done {fuel : Nat} {listed : Array Bool} (hr : (Region.ready .any ops listed).isEmpty = true) (h : Q .normal E w) : B x ops Q fuel listed E w := fun _ a ha => by
  have hr' : Region.ready .any ops listed = [] := by simpa using hr
  cases fuel with
  | zero => exact ⟨hr', E, ha, h⟩
  | succ n => exact ⟨fun _ => ⟨E, ha, h⟩, by rw [hr']; simp⟩
theorem B_all (rs : List Nat) {fuel : Nat} {listed : Array Bool} (hr : (Region.ready .any ops listed == rs && !rs.isEmpty) = true)
    (h : ∀ i ∈ rs, ∃ o, ops[i]? = some o ∧ gd ops o E = some true ∧ S x o Q (fun v w' => B x ops Q fuel (listed.setIfInBounds i true) (E.put o.dst v) w') E w) : B x ops Q (fuel + 1) listed E w := by
  intro h1 a ha
  simp only [Bool.and_eq_true, beq_iff_eq, Bool.not_eq_true'] at hr
  obtain ⟨hr, hne⟩ := hr
  refine ⟨fun h0 => ?_, fun i hi => ?_⟩
  · rw [h0] at hr; subst hr; cases hne
  · rw [hr] at hi
    obtain ⟨o, ho, hg, hS⟩ := h i hi
    unfold wpOpIn
    simp only [ho, gd_spec hg ha, if_true]
    exact hS a ha _ fun v w' hA => hA h1 _ (ha.put _ _ (dst_lt h1 ho))
theorem B_one (i : Nat) {t : Tmp} {op : Op} {ty : TypeId} {pos : String} {aft : Array Edge} {g : Option (Nat × Bool)} {D : List Deferred} {L : List (Nat × Value)} {fuel : Nat} {listed : Array Bool} (hi : ops[i]? = some ⟨some t, op, ty, pos, aft, g⟩)
    (hr : (Region.ready .any ops listed == [i]) = true) (hg : gd ops ⟨some t, op, ty, pos, aft, g⟩ ⟨D, L⟩ = some true)
    (h : S x ⟨some t, op, ty, pos, aft, g⟩ Q (fun v w' => B x ops Q fuel (listed.setIfInBounds i true) ⟨D, (t, v) :: L⟩ w') ⟨D, L⟩ w) : B x ops Q (fuel + 1) listed ⟨D, L⟩ w :=
  B_all [i] (by simpa using hr) fun j hj => by
    obtain rfl : j = i := by simpa using hj
    exact ⟨_, hi, hg, h⟩
theorem B_oneN (i : Nat) {op : Op} {ty : TypeId} {pos : String} {aft : Array Edge} {g : Option (Nat × Bool)} {fuel : Nat} {listed : Array Bool} (hi : ops[i]? = some ⟨none, op, ty, pos, aft, g⟩)
    (hr : (Region.ready .any ops listed == [i]) = true) (hg : gd ops ⟨none, op, ty, pos, aft, g⟩ E = some true)
    (h : S x ⟨none, op, ty, pos, aft, g⟩ Q (fun _ w' => B x ops Q fuel (listed.setIfInBounds i true) E w') E w) : B x ops Q (fuel + 1) listed E w :=
  B_all [i] (by simpa using hr) fun j hj => by
    obtain rfl : j = i := by simpa using hj
    exact ⟨_, hi, hg, h⟩
theorem B_two (i j : Nat) {t t' : Tmp} {op op' : Op} {ty ty' : TypeId} {pos pos' : String} {aft aft' : Array Edge} {g g' : Option (Nat × Bool)} {D : List Deferred} {L : List (Nat × Value)} {fuel : Nat} {listed : Array Bool} (hi : ops[i]? = some ⟨some t, op, ty, pos, aft, g⟩) (hj : ops[j]? = some ⟨some t', op', ty', pos', aft', g'⟩)
    (hr : (Region.ready .any ops listed == [i, j]) = true) (hg : gd ops ⟨some t, op, ty, pos, aft, g⟩ ⟨D, L⟩ = some true) (hg' : gd ops ⟨some t', op', ty', pos', aft', g'⟩ ⟨D, L⟩ = some true)
    (h : S x ⟨some t, op, ty, pos, aft, g⟩ Q (fun v w' => B x ops Q fuel (listed.setIfInBounds i true) ⟨D, (t, v) :: L⟩ w') ⟨D, L⟩ w)
    (h' : S x ⟨some t', op', ty', pos', aft', g'⟩ Q (fun v w' => B x ops Q fuel (listed.setIfInBounds j true) ⟨D, (t', v) :: L⟩ w') ⟨D, L⟩ w) : B x ops Q (fuel + 1) listed ⟨D, L⟩ w :=
  B_all [i, j] (by simpa using hr) fun k hk => by
    rcases (by simpa using hk : k = i ∨ k = j) with rfl | rfl
    · exact ⟨_, hi, hg, h⟩
    · exact ⟨_, hj, hg', h'⟩
end
end Go.Ex
