/- Equality of arrays of words, and of structs. -/
import Derived.Test.YtcnljflihhggiaaGreatDoorExDefer
import Derived.Test.YtcnljflihhggiaaGreatDoorExWords
import Derived.Laws.StructEq
namespace Go.Ex
open Go Go.RowKit
theorem part1 {P : Program} {w : World} {t : TypeId} {xs : Array Value} {i : Nat} {v : Value} (hA : ∀ w, (isAgg t).run P w = .ok false w) (hx : xs[i]? = some v) : (part t xs i).run P w = .ok v w := by
  simp [part, hA w, hx]
theorem equalIn_u64 {P : Program} {w : World} (d : Nat) {e : TypeId} (he : P.underlying e = some (.int .u64)) (a b : Nat) (ha : a < W64) (hb : b < W64) : (Op.equalIn (d + 1) e (u64V a) (u64V b)).run P w = .ok (decide (a = b)) w := by
  unfold u64V
  rw [run_equalIn_int w d e _ _ _ _ he]
  congr 1
  by_cases h : a = b
  · subst h; simp
  · have h2 : ¬ ((a : Int) = (b : Int)) := by omega
    simp [h, h2]
theorem equalIn_w4 {P : Program} {w : World} (d : Nat) {t e : TypeId} (ht : P.underlying t = some (.array 4 e)) (hS : ∀ w, (sizeOf e).run P w = .ok 1 w) (hA : ∀ w, (isAgg e).run P w = .ok false w) (he : P.underlying e = some (.int .u64)) {x y : List Nat}
    (hx : x.length = 4) (hy : y.length = 4) (hxw : ∀ a ∈ x, a < W64) (hyw : ∀ a ∈ y, a < W64) :
    (Op.equalIn (d + 2) t (.agg (x.map u64V).toArray) (.agg (y.map u64V).toArray)).run P w = .ok (decide (x = y)) w := by
  obtain ⟨a0, a1, a2, a3, rfl⟩ : ∃ a b c d, x = [a, b, c, d] := by
    match x, hx with
    | [a, b, c, d], _ => exact ⟨a, b, c, d, rfl⟩
  obtain ⟨b0, b1, b2, b3, rfl⟩ : ∃ a b c d, y = [a, b, c, d] := by
    match y, hy with
    | [a, b, c, d], _ => exact ⟨a, b, c, d, rfl⟩
  have hp : ∀ (c0 c1 c2 c3 : Nat) (i : Nat) (v : Value), [u64V c0, u64V c1, u64V c2, u64V c3][i]? = some v → ∀ w, (part e (([c0, c1, c2, c3].map u64V).toArray) i).run P w = .ok v w := fun c0 c1 c2 c3 i v h w => part1 hA (by simpa using h)
  have hq := fun (a b : Nat) (h1 : a < W64) (h2 : b < W64) (w : World) => equalIn_u64 (P := P) (w := w) d he a b h1 h2
  have h0 := hxw a0 (by simp); have h1 := hxw a1 (by simp); have h2 := hxw a2 (by simp); have h3 := hxw a3 (by simp)
  have g0 := hyw b0 (by simp); have g1 := hyw b1 (by simp); have g2 := hyw b2 (by simp); have g3 := hyw b3 (by simp)
  have e0 := hp a0 a1 a2 a3 0 _ rfl; have e1 := hp a0 a1 a2 a3 1 _ rfl; have e2 := hp a0 a1 a2 a3 2 _ rfl; have e3 := hp a0 a1 a2 a3 3 _ rfl
  have k0 := hp b0 b1 b2 b3 0 _ rfl; have k1 := hp b0 b1 b2 b3 1 _ rfl; have k2 := hp b0 b1 b2 b3 2 _ rfl; have k3 := hp b0 b1 b2 b3 3 _ rfl
  generalize ([a0, a1, a2, a3].map u64V).toArray = X at *
  generalize ([b0, b1, b2, b3].map u64V).toArray = Y at *
  have q0 := hq a0 b0 h0 g0; have q1 := hq a1 b1 h1 g1; have q2 := hq a2 b2 h2 g2; have q3 := hq a3 b3 h3 g3
  rw [Op.equalIn]
  simp only [Sem.run_bind, run_underlying ht, Result.andThen_ok, hS, Std.Legacy.Range.forIn_eq_forIn_range', Std.Legacy.Range.size]
  rw [show List.range' 0 ((4 - 0 + 1 - 1) / 1) = [0, 1, 2, 3] from rfl]
  have hd : decide ([a0, a1, a2, a3] = [b0, b1, b2, b3]) = (decide (a0 = b0) && (decide (a1 = b1) && (decide (a2 = b2) && decide (a3 = b3)))) := by simp
  rw [hd]
  generalize decide (a0 = b0) = r0 at *
  generalize decide (a1 = b1) = r1 at *
  generalize decide (a2 = b2) = r2 at *
  generalize decide (a3 = b3) = r3 at *
  simp only [List.forIn_cons, List.forIn_nil, Sem.run_bind, Nat.zero_mul, Nat.one_mul, Nat.mul_one, e0, e1, e2, e3, k0, k1, k2, k3, q0, q1, q2, q3, Result.andThen_ok]
  cases r0 <;> simp only [Bool.not_true, Bool.not_false, Bool.false_eq_true, if_true, if_false, Sem.run_pure, Result.andThen_ok, Bool.false_and, Bool.true_and]
  cases r1 <;> simp only [Bool.not_true, Bool.not_false, Bool.false_eq_true, if_true, if_false, Sem.run_pure, Result.andThen_ok, Bool.false_and, Bool.true_and, Sem.run_bind, e1, e2, e3, k1, k2, k3, q1, q2, q3]
  cases r2 <;> simp only [Bool.not_true, Bool.not_false, Bool.false_eq_true, if_true, if_false, Sem.run_pure, Result.andThen_ok, Bool.false_and, Bool.true_and, Sem.run_bind, e1, e2, e3, k1, k2, k3, q1, q2, q3]
  cases r3 <;> simp only [Bool.not_true, Bool.not_false, Bool.false_eq_true, if_true, if_false, Sem.run_pure, Result.andThen_ok, Bool.false_and, Bool.true_and, Sem.run_bind, e1, e2, e3, k1, k2, k3, q1, q2, q3]
section
variable {x : Cx} {E : Env} {K : Value → Prop} {d : Option Tmp} {ty : TypeId} {pos : String} {aft : Array Edge} {g : Option (Nat × Bool)} {o q : Operand} {c : Ctx} {G : Ghost} {H : List Res}
/-- An element of a row of one's own. -/
theorem Y_ldRow {t b i e n cap : Nat} {v : Value} {xs : List Value} (h : Nat) (hi : H[h]? = some (.row e 1 (.slice (some ⟨b, 0, none⟩) n cap) n xs)) (hA : ∀ w, (isAgg t).run x.P w = .ok false w) (ho : ev E o = some (.pointer (some ⟨b, i, none⟩)))
    (hx : xs[i]? = some v) (k : K v) : Y x (St c G H) ⟨d, .load t o, ty, pos, aft, g⟩ E K :=
  Y_of (v := v) (fun a ha w hw => by
    have hr : w.ownsRow 0 e 1 (.slice (some ⟨b, 0, none⟩) n cap) n xs := hw.hold (.row e 1 _ n xs) (List.mem_of_getElem? hi)
    have hc : w.cell? ⟨b, i, none⟩ = some v := by
      rcases hr.2 with ⟨h0, _⟩ | ⟨b', cap', cur, h0, _, hh, _, _, _, htk⟩
      · cases h0
      · injection h0 with h1' h2' h3'
        injection h1' with h1'
        injection h1' with h1'
        subst h1'
        rw [Nat.mul_one] at htk
        have hlt : i < n := by
          rcases Nat.lt_or_ge i n with h' | h'
          · exact h'
          · rw [List.getElem?_eq_none (by rw [hr.1]; omega)] at hx; cases hx
        rw [← htk, List.getElem?_take_of_lt hlt] at hx
        simpa [World.cell?, hh] using hx
    simp [execOp, ha.ev ho, Instr.loadAt, Instr.sureAddr, loadVar, hA w, hc]) k
end
section
variable {x : Cx} {W : World → Prop} {E : Env} {K : Value → Prop} {d : Option Tmp} {ty : TypeId} {pos : String} {aft : Array Edge} {g : Option (Nat × Bool)} {o q : Operand} {xt yt : TypeId}
theorem Y_neqW {e : TypeId} {a b : List Nat} (ht : x.P.underlying xt = some (.array 4 e)) (hS : ∀ w, (sizeOf e).run x.P w = .ok 1 w) (hA : ∀ w, (isAgg e).run x.P w = .ok false w) (he : x.P.underlying e = some (.int .u64)) (hg : x.P.eqGuardType x.P.depth xt = false)
    (h1 : ev E o = some (.agg (a.map u64V).toArray)) (h2 : ev E q = some (.agg (b.map u64V).toArray)) (hx : a.length = 4) (hy : b.length = 4) (hxw : ∀ x ∈ a, x < W64) (hyw : ∀ x ∈ b, x < W64) (k : K (.bool (!decide (a = b)))) : Y x W ⟨d, .binOp .neq xt o q yt, ty, pos, aft, g⟩ E K :=
  Y_of (v := .bool (!decide (a = b))) (fun f hf w _ => by
    have h' : (binOp .neq xt (.agg (a.map u64V).toArray) (.agg (b.map u64V).toArray)).run x.P w = .ok (.bool (!decide (a = b))) w := by
      rw [run_neq_struct, equalIn_w4 9998 ht hS hA he hx hy hxw hyw]; rfl
    simp only [execOp, hf.ev h1, hf.ev h2, Sem.run_bind, run_eqGuard_agg w _ _ _ _ _ _ hg, Result.andThen_ok, h', Sem.run_pure]) k
theorem Y_neqWS {e : TypeId} {a b : List Nat} (ht : x.P.underlying xt = some (.array 4 e)) (hS : ∀ w, (sizeOf e).run x.P w = .ok 1 w) (hA : ∀ w, (isAgg e).run x.P w = .ok false w) (he : x.P.underlying e = some (.int .u64)) (hg : x.P.eqGuardType x.P.depth xt = false)
    (h1 : ev E o = some (.agg (a.map u64V).toArray)) (h2 : ev E q = some (.agg (b.map u64V).toArray)) (hx : a.length = 4) (hy : b.length = 4) (hxw : ∀ x ∈ a, x < W64) (hyw : ∀ x ∈ b, x < W64) (kt : ¬ a = b → K (.bool true)) (kf : a = b → K (.bool false)) : Y x W ⟨d, .binOp .neq xt o q yt, ty, pos, aft, g⟩ E K :=
  Y_neqW ht hS hA he hg h1 h2 hx hy hxw hyw (by
    by_cases h : a = b
    · simpa [h] using kf h
    · simpa [h] using kt h)
end
end Go.Ex
