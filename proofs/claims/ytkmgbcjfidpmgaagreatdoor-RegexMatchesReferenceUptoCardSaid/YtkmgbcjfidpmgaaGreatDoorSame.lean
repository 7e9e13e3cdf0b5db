/- Package regex: equality of nodes. -/
import Derived.Test.YtkmgbcjfidpmgaaGreatDoorTree
namespace Go.Proofs.YtkmgbcjfidpmgaaGreatDoor
open Go Go.Ex Go.RowKit

theorem eqF_cons {P : Program} {w : World} {d : Nat} {xs ys : Array Value} {f : Field} {fs : List Field} {u v : Value} {r : Bool} (hn : f.name ≠ "_") (pa : (part f.type xs f.offset).run P w = .ok u w) (pb : (part f.type ys f.offset).run P w = .ok v w)
    (he : (Op.equalIn d f.type u v).run P w = .ok r w) : (Op.eqFields d xs ys (f :: fs)).run P w = if r = true then (Op.eqFields d xs ys fs).run P w else .ok false w := by
  simp only [Op.eqFields, if_pos hn, Sem.run_bind, pa, pb, he, Result.andThen_ok]
  cases r <;> simp
structure NodeTy (P : Program) (nd : TypeId) : Prop where
  fs : ∃ f0 f1 f2 f3 f4 f5 : Field, ∃ e : TypeId, P.underlying nd = some (.struct #[f0, f1, f2, f3, f4, f5]) ∧ (f0.name ≠ "_" ∧ f1.name ≠ "_" ∧ f2.name ≠ "_" ∧ f3.name ≠ "_" ∧ f4.name ≠ "_" ∧ f5.name ≠ "_") ∧
    (f0.offset = 0 ∧ f1.offset = 1 ∧ f2.offset = 5 ∧ f3.offset = 6 ∧ f4.offset = 7 ∧ f5.offset = 8) ∧
    (P.underlying f0.type = some (.int .i64) ∧ P.underlying f2.type = some (.int .i64) ∧ P.underlying f3.type = some (.int .i64) ∧ P.underlying f4.type = some (.int .i64) ∧ P.underlying f5.type = some (.int .i64)) ∧
    ((∀ w, (isAgg f0.type).run P w = .ok false w) ∧ (∀ w, (isAgg f2.type).run P w = .ok false w) ∧ (∀ w, (isAgg f3.type).run P w = .ok false w) ∧ (∀ w, (isAgg f4.type).run P w = .ok false w) ∧ (∀ w, (isAgg f5.type).run P w = .ok false w)) ∧
    (P.underlying f1.type = some (.array 4 e) ∧ (∀ w, (sizeOf e).run P w = .ok 1 w) ∧ (∀ w, (isAgg e).run P w = .ok false w) ∧ P.underlying e = some (.int .u64) ∧ (∀ w, (isAgg f1.type).run P w = .ok true w) ∧ (∀ w, (sizeOf f1.type).run P w = .ok 4 w))
  held : P.stoodInHeld nd = false
  guard : P.eqGuardType P.depth nd = false
open Classical in
theorem NodeTy.eq {P : Program} {nd : TypeId} (h : NodeTy P nd) {a b : NodeV} (ha : ClsOk a.c) (hb : ClsOk b.c) (w : World) : (Op.equalIn 10000 nd (.agg (nodeC a).toArray) (.agg (nodeC b).toArray)).run P w = .ok (decide (a = b)) w := by
  obtain ⟨⟨f0, f1, f2, f3, f4, f5, e, hu, ⟨n0, n1, n2, n3, n4, n5⟩, ⟨o0, o1, o2, o3, o4, o5⟩, ⟨t0, t2, t3, t4, t5⟩, ⟨g0, g2, g3, g4, g5⟩, ht, hS, hA, he, h1A, h1S⟩, hh, _⟩ := h
  have hf : P.fieldsOf nd = #[f0, f1, f2, f3, f4, f5] := by unfold Program.fieldsOf; rw [hu]
  obtain ⟨ka, ca, la, ra, mna, mxa⟩ := a
  obtain ⟨kb, cb, lb, rb, mnb, mxb⟩ := b
  obtain ⟨a0, a1, a2, a3, rfl⟩ := four_of ha.1
  obtain ⟨b0, b1, b2, b3, rfl⟩ := four_of hb.1
  rw [run_equalIn_struct w 9999 nd _ _ (by rw [hf]; exact hu) hh, hf]
  show (Op.eqFields 9999 _ _ [f0, f1, f2, f3, f4, f5]).run P w = _
  have q : ∀ (f : Field) (x y : Int), P.underlying f.type = some (.int .i64) → (Op.equalIn 9999 f.type (.int .i64 x) (.int .i64 y)).run P w = .ok (decide (x = y)) w := fun f x y hx => by
    rw [run_equalIn_int w 9998 f.type _ _ _ _ hx]
    by_cases h : x = y <;> simp [h]
  have pA : ∀ (x0 x1 x2 x3 x4 x5 x6 x7 x8 : Value), (part f1.type #[x0, x1, x2, x3, x4, x5, x6, x7, x8] f1.offset).run P w = .ok (.agg #[x1, x2, x3, x4]) w := fun _ _ _ _ _ _ _ _ _ => by
    rw [o1]; simp [part, h1A w, h1S w]
  have pX : (part f1.type (nodeC ⟨ka, [a0, a1, a2, a3], la, ra, mna, mxa⟩).toArray f1.offset).run P w = .ok (.agg (List.map u64V [a0, a1, a2, a3]).toArray) w := pA _ _ _ _ _ _ _ _ _
  have pY : (part f1.type (nodeC ⟨kb, [b0, b1, b2, b3], lb, rb, mnb, mxb⟩).toArray f1.offset).run P w = .ok (.agg (List.map u64V [b0, b1, b2, b3]).toArray) w := pA _ _ _ _ _ _ _ _ _
  have h4 : (Op.equalIn 9999 f1.type (.agg (List.map u64V [a0, a1, a2, a3]).toArray) (.agg (List.map u64V [b0, b1, b2, b3]).toArray)).run P w = .ok (decide ([a0, a1, a2, a3] = [b0, b1, b2, b3])) w := equalIn_w4 (P := P) (w := w) 9997 ht hS hA he (x := [a0, a1, a2, a3]) (y := [b0, b1, b2, b3]) rfl rfl ha.2 hb.2
  rw [eqF_cons n0 (part1 g0 (by rw [o0]; rfl)) (part1 g0 (by rw [o0]; rfl)) (q f0 ka kb t0)]
  rw [eqF_cons n1 pX pY h4]
  rw [eqF_cons n2 (part1 g2 (by rw [o2]; rfl)) (part1 g2 (by rw [o2]; rfl)) (q f2 la lb t2)]
  rw [eqF_cons n3 (part1 g3 (by rw [o3]; rfl)) (part1 g3 (by rw [o3]; rfl)) (q f3 ra rb t3)]
  rw [eqF_cons n4 (part1 g4 (by rw [o4]; rfl)) (part1 g4 (by rw [o4]; rfl)) (q f4 mna mnb t4)]
  rw [eqF_cons n5 (part1 g5 (by rw [o5]; rfl)) (part1 g5 (by rw [o5]; rfl)) (q f5 mxa mxb t5)]
  have e1 : ((⟨ka, [a0, a1, a2, a3], la, ra, mna, mxa⟩ : NodeV) = ⟨kb, [b0, b1, b2, b3], lb, rb, mnb, mxb⟩) ↔ ka = kb ∧ [a0, a1, a2, a3] = [b0, b1, b2, b3] ∧ la = lb ∧ ra = rb ∧ mna = mnb ∧ mxa = mxb := by simp only [NodeV.mk.injEq]
  simp only [decide_eq_true_eq, Op.eqFields, Sem.run_pure, e1]
  by_cases c1 : ka = kb
  · by_cases c2 : [a0, a1, a2, a3] = [b0, b1, b2, b3]
    · by_cases c3 : la = lb
      · by_cases c4 : ra = rb
        · by_cases c5 : mna = mnb
          · by_cases c6 : mxa = mxb
            · rw [if_pos c1, if_pos c2, if_pos c3, if_pos c4, if_pos c5, if_pos c6, decide_eq_true ⟨c1, c2, c3, c4, c5, c6⟩]
            · rw [if_pos c1, if_pos c2, if_pos c3, if_pos c4, if_pos c5, if_neg c6, decide_eq_false (fun h => c6 h.2.2.2.2.2)]
          · rw [if_pos c1, if_pos c2, if_pos c3, if_pos c4, if_neg c5, decide_eq_false (fun h => c5 h.2.2.2.2.1)]
        · rw [if_pos c1, if_pos c2, if_pos c3, if_neg c4, decide_eq_false (fun h => c4 h.2.2.2.1)]
      · rw [if_pos c1, if_pos c2, if_neg c3, decide_eq_false (fun h => c3 h.2.2.1)]
    · rw [if_pos c1, if_neg c2, decide_eq_false (fun h => c2 h.2.1)]
  · rw [if_neg c1, decide_eq_false (fun h => c1 h.1)]
section
variable {x : Cx} {W : World → Prop} {E : Env} {K : Value → Prop} {d : Option Tmp} {ty : TypeId} {pos : String} {aft : Array Edge} {g : Option (Nat × Bool)} {o q : Operand} {xt yt : TypeId}
open Classical in
theorem Y_neqNS {a b : NodeV} (h : NodeTy x.P xt) (ha : ClsOk a.c) (hb : ClsOk b.c) (h1 : ev E o = some (.agg (nodeC a).toArray)) (h2 : ev E q = some (.agg (nodeC b).toArray)) (kt : ¬ a = b → K (.bool true)) (kf : a = b → K (.bool false)) : Y x W ⟨d, .binOp .neq xt o q yt, ty, pos, aft, g⟩ E K :=
  Y_of (v := .bool (!decide (a = b))) (fun f hf w _ => by
    have h' : (binOp .neq xt (.agg (nodeC a).toArray) (.agg (nodeC b).toArray)).run x.P w = .ok (.bool (!decide (a = b))) w := by
      rw [run_neq_struct, h.eq ha hb]; rfl
    simp only [execOp, hf.ev h1, hf.ev h2, Sem.run_bind, run_eqGuard_agg w _ _ _ _ _ _ h.guard, Result.andThen_ok, h', Sem.run_pure]) (by
    by_cases hab : a = b
    · simpa [hab] using kf hab
    · simpa [hab] using kt hab)
end
theorem bit_and {w s : Nat} (hs : s < 64) : and64 (w / 2 ^ s) 1 = 1 ↔ and64 w (2 ^ s) ≠ 0 := by
  have h1 : and64 (w / 2 ^ s) 1 = w / 2 ^ s % 2 := by
    unfold and64
    rw [show 1 % W64 = 1 by decide, Nat.and_one_is_mod, Nat.mod_mod_of_dvd _ (by decide)]
  have hlt : 2 ^ s < W64 := Nat.pow_lt_pow_right (by decide) hs
  have h2 : and64 w (2 ^ s) = w % 2 ^ 64 &&& 2 ^ s := by unfold and64; rw [Nat.mod_eq_of_lt hlt]
  have h3 : (w % 2 ^ 64 &&& 2 ^ s).testBit s = decide (w / 2 ^ s % 2 = 1) := by
    rw [Nat.testBit_and, Nat.testBit_mod_two_pow, Nat.testBit_two_pow_self, Nat.testBit_eq_decide_div_mod_eq]; simp [hs]
  rw [h1, h2]
  constructor
  · intro h hz
    rw [hz, Nat.zero_testBit, h] at h3; simp at h3
  · intro hne
    obtain ⟨i, hi⟩ := Nat.exists_testBit_of_ne_zero hne
    have hi2 := hi
    rw [Nat.testBit_and, Nat.testBit_two_pow, Bool.and_eq_true, decide_eq_true_eq] at hi2
    obtain rfl := hi2.2
    rw [hi] at h3
    exact of_decide_eq_true h3.symm
theorem has_iff2 (c : List Nat) (x : UInt8) : cmpP .eql ((and64 (c.getD (x.toNat / 64) 0 / 2 ^ (x.toNat % 64)) 1 : Nat) : Int) 1 ↔ hasF c x = true := by
  unfold hasF; rw [decide_eq_true_iff, ← bit_and (Nat.mod_lt _ (by decide))]; show _ = _ ↔ _; omega
end Go.Proofs.YtkmgbcjfidpmgaaGreatDoor
