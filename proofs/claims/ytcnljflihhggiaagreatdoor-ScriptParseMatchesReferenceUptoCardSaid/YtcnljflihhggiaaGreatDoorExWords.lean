/- Words of 64 bits, as natural numbers; arrays as values; whole blocks. -/
import Derived.Test.YtcnljflihhggiaaGreatDoorExMaps
import Derived.Laws.Bits64
namespace Go.Ex
open Go Go.RowKit

abbrev W64 : Nat := 18446744073709551616
def u64V (n : Nat) : Value := .int .u64 (n : Int)
def and64 (a b : Nat) : Nat := a % W64 &&& b % W64
def or64 (a b : Nat) : Nat := a % W64 ||| b % W64
def xor64 (a b : Nat) : Nat := a % W64 ^^^ b % W64
def add64 (a b : Nat) : Nat := (a + b) % W64
def sub64 (a b : Nat) : Nat := (a + (W64 - b % W64)) % W64
def mul64 (a b : Nat) : Nat := (a * b) % W64
theorem ofInt64 (a : Nat) : (BitVec.ofInt 64 (a : Int)).toNat = a % W64 := by
  rw [BitVec.toNat_ofInt]; norm_cast
theorem wrap64u (n : Nat) : IntKind.u64.wrap (n : Int) = ((n % W64 : Nat) : Int) := by rw [IntKind.wrap_u64]; simp [W64]
theorem and64_lt (a b : Nat) : and64 a b < W64 := Nat.and_lt_two_pow (n := 64) _ (Nat.mod_lt _ (by decide))
theorem or64_lt (a b : Nat) : or64 a b < W64 := Nat.or_lt_two_pow (n := 64) (Nat.mod_lt _ (by decide)) (Nat.mod_lt _ (by decide))
theorem xor64_lt (a b : Nat) : xor64 a b < W64 := Nat.xor_lt_two_pow (n := 64) (Nat.mod_lt _ (by decide)) (Nat.mod_lt _ (by decide))
theorem bits_and (a b : Nat) : bitsI .and .u64 (a : Int) (b : Int) = ((and64 a b : Nat) : Int) := by
  show IntKind.u64.wrap ((BitVec.ofInt 64 (a : Int) &&& BitVec.ofInt 64 (b : Int)).toNat : Int) = _
  rw [BitVec.toNat_and, ofInt64, ofInt64, wrap64u]
  exact congrArg Nat.cast (Nat.mod_eq_of_lt (and64_lt a b))
theorem bits_or (a b : Nat) : bitsI .or .u64 (a : Int) (b : Int) = ((or64 a b : Nat) : Int) := by
  show IntKind.u64.wrap ((BitVec.ofInt 64 (a : Int) ||| BitVec.ofInt 64 (b : Int)).toNat : Int) = _
  rw [BitVec.toNat_or, ofInt64, ofInt64, wrap64u]
  exact congrArg Nat.cast (Nat.mod_eq_of_lt (or64_lt a b))
theorem bits_xor (a b : Nat) : bitsI .xor .u64 (a : Int) (b : Int) = ((xor64 a b : Nat) : Int) := by
  show IntKind.u64.wrap ((BitVec.ofInt 64 (a : Int) ^^^ BitVec.ofInt 64 (b : Int)).toNat : Int) = _
  rw [BitVec.toNat_xor, ofInt64, ofInt64, wrap64u]
  exact congrArg Nat.cast (Nat.mod_eq_of_lt (xor64_lt a b))
theorem wrap_add (a b : Nat) : IntKind.u64.wrap ((a : Int) + (b : Int)) = ((add64 a b : Nat) : Int) := by rw [← Int.natCast_add, wrap64u]; rfl
theorem wrap_mul (a b : Nat) : IntKind.u64.wrap ((a : Int) * (b : Int)) = ((mul64 a b : Nat) : Int) := by rw [← Int.natCast_mul, wrap64u]; rfl
theorem wrap_sub (a b : Nat) : IntKind.u64.wrap ((a : Int) - (b : Int)) = ((sub64 a b : Nat) : Int) := by
  rw [IntKind.wrap_u64]; unfold sub64 W64; omega
theorem shl_one (k : Nat) (hk : k < 64) : IntKind.u64.wrap (1 * 2 ^ (min ((k : Int)).toNat IntKind.u64.bits)) = ((2 ^ k : Nat) : Int) := by
  have h1 : min ((k : Int)).toNat IntKind.u64.bits = k := by show min ((k : Int)).toNat 64 = k; omega
  rw [h1, Int.one_mul, show ((2 : Int) ^ k) = ((2 ^ k : Nat) : Int) by push_cast; rfl, wrap64u, Nat.mod_eq_of_lt]
  exact Nat.pow_lt_pow_right (by decide) hk
theorem shr_pow (a k : Nat) (hk : k < 64) : (a : Int).fdiv (2 ^ (min ((k : Int)).toNat IntKind.u64.bits)) = ((a / 2 ^ k : Nat) : Int) := by
  have h1 : min ((k : Int)).toNat IntKind.u64.bits = k := by show min ((k : Int)).toNat 64 = k; omega
  rw [h1, Int.fdiv_eq_ediv_of_nonneg _ (Int.pow_nonneg (by decide))]
  push_cast; rfl

section
variable {x : Cx} {W : World → Prop} {E : Env} {K : Value → Prop} {d : Option Tmp} {ty : TypeId} {pos : String} {aft : Array Edge} {g : Option (Nat × Bool)} {c : Ctx} {G : Ghost} {H : List Res} {xt yt : TypeId} {o p : Operand} {a b : Nat}
theorem Y_and64 (h1 : ev E o = some (u64V a)) (h2 : ev E p = some (u64V b)) (k : K (u64V (and64 a b))) : Y x W ⟨d, .binOp .and xt o p yt, ty, pos, aft, g⟩ E K := Y_bits h1 h2 (by simp) (bits_and a b) k
theorem Y_or64 (h1 : ev E o = some (u64V a)) (h2 : ev E p = some (u64V b)) (k : K (u64V (or64 a b))) : Y x W ⟨d, .binOp .or xt o p yt, ty, pos, aft, g⟩ E K := Y_bits h1 h2 (by simp) (bits_or a b) k
theorem Y_add64 (h1 : ev E o = some (u64V a)) (h2 : ev E p = some (u64V b)) (k : K (u64V (add64 a b))) : Y x W ⟨d, .binOp .add xt o p yt, ty, pos, aft, g⟩ E K := Y_addW h1 h2 (by rw [wrap_add]; exact k)
theorem Y_sub64 (h1 : ev E o = some (u64V a)) (h2 : ev E p = some (u64V b)) (k : K (u64V (sub64 a b))) : Y x W ⟨d, .binOp .sub xt o p yt, ty, pos, aft, g⟩ E K := Y_subW h1 h2 (by rw [wrap_sub]; exact k)
theorem Y_mul64 (h1 : ev E o = some (u64V a)) (h2 : ev E p = some (u64V b)) (k : K (u64V (mul64 a b))) : Y x W ⟨d, .binOp .mul xt o p yt, ty, pos, aft, g⟩ E K := Y_mulW h1 h2 (by rw [wrap_mul]; exact k)
theorem Y_shr64 {kd : IntKind} (k' : Nat) (hk' : k' < 64) (h1 : ev E o = some (u64V a)) (h2 : ev E p = some (.int kd (k' : Int))) (k : K (u64V (a / 2 ^ k'))) : Y x W ⟨d, .binOp .shr xt o p yt, ty, pos, aft, g⟩ E K :=
  Y_shr h1 h2 (by omega) (shr_pow a k' hk') k
theorem Y_shl1 {kd : IntKind} (k' : Nat) (hk' : k' < 64) (h1 : ev E o = some (u64V 1)) (h2 : ev E p = some (.int kd (k' : Int))) (k : K (u64V (2 ^ k'))) : Y x W ⟨d, .binOp .shl xt o p yt, ty, pos, aft, g⟩ E K :=
  Y_shl h1 h2 (by omega) (shl_one k' hk') k
theorem Y_compl64 (h : ev E o = some (u64V a)) (k : K (u64V (xor64 18446744073709551615 a))) : Y x W ⟨d, .unOp .xor xt o, ty, pos, aft, g⟩ E K :=
  Y_of (v := u64V (xor64 18446744073709551615 a)) (fun f hf w _ => by
    have := bits_xor 18446744073709551615 a
    simp only [bitsI] at this
    simp [execOp, hf.ev h, u64V, Op.unary, Op.intBits, IntKind.signed, IntKind.max, IntKind.bits] at this ⊢
    exact this) k
theorem Y_neg64 (h : ev E o = some (u64V a)) (k : K (u64V (sub64 0 a))) : Y x W ⟨d, .unOp .neg xt o, ty, pos, aft, g⟩ E K :=
  Y_of (v := u64V (sub64 0 a)) (fun f hf w _ => by
    have := wrap_sub 0 a
    simp [execOp, hf.ev h, u64V, Op.unary, Op.intArith] at this ⊢
    exact this) k
/-- An element of an array that is a value. -/
theorem Y_indexV {t e : TypeId} {n : Nat} {kd : IntKind} {j : Int} {vs : List Value} {v : Value} (i : Nat) (hu : x.P.underlying t = some (.array n e)) (hA : ∀ w, (isAgg e).run x.P w = .ok false w) (hS : ∀ w, (sizeOf e).run x.P w = .ok 1 w)
    (h1 : ev E o = some (.agg vs.toArray)) (h2 : ev E p = some (.int kd j)) (hj : j = (i : Int)) (hlt : i < n) (hv : vs[i]? = some v) (k : K v) : Y x W ⟨d, .index t o p, ty, pos, aft, g⟩ E K := by
  subst hj
  refine Y_of (v := v) (fun f hf w _ => ?_) k
  simp [execOp, hf.ev h1, hf.ev h2, Instr.index, asIntOf, run_underlying hu, hS w, hlt, part, hA w, hv]
/-- A whole block. -/
theorem Y_ldW {t e b' n : Nat} {cs : List Value} (i : Nat) (hA : ∀ w, (isAgg t).run x.P w = .ok true w) (hS : ∀ w, (sizeOf t).run x.P w = .ok n w) (h : ev E o = some (.pointer (some ⟨b', 0, none⟩)))
    (hi : H[i]? = some (.blk b' e cs)) (hn : cs.length = n) (k : K (.agg cs.toArray)) : Y x (St c G H) ⟨d, .load t o, ty, pos, aft, g⟩ E K := Y_ldA i hA hS h hi (by rw [List.drop_zero]; exact List.take_of_length_le (by omega)) hn k
/-- One cell of an owned block, at a place that is reckoned. -/
theorem Y_idxArr' {t e : TypeId} {kd : IntKind} {n b' : Nat} {j : Int} (i : Nat) (hu : x.P.underlying t = some (.array n e)) (hs : ∀ w, (sizeOf e).run x.P w = .ok 1 w)
    (h1 : ev E o = some (.pointer (some ⟨b', 0, none⟩))) (h2 : ev E p = some (.int kd j)) (hj : j = (i : Int)) (hlt : i < n)
    (k : K (.pointer (some ⟨b', i, none⟩))) : Y x W ⟨d, .indexAddr t o p, ty, pos, aft, g⟩ E K := Y_idxArr i hu hs h1 h2 hj hlt (by omega) k
end
theorem u64_all (l : List Nat) : (l.map u64V).all (·.oneCell') = true := by
  rw [List.all_eq_true]; intro v hv; obtain ⟨n, _, rfl⟩ := List.mem_map.1 hv; rfl
theorem i64_all (l : List Int) : (l.map (Value.int .i64)).all (·.oneCell') = true := by
  rw [List.all_eq_true]; intro v hv; obtain ⟨n, _, rfl⟩ := List.mem_map.1 hv; rfl
/-- Four words as an array. -/
def ClsV (c : List Nat) : Value := .agg (c.map u64V).toArray
section
variable {x : Cx} {Q : Exit → Env → World → Prop} {E : Env} {K : Value → World → Prop} {w : World} {d : Option Tmp} {ty : TypeId} {pos : String} {aft : Array Edge} {g : Option (Nat × Bool)} {c : Ctx} {G : Ghost} {H : List Res}
/-- A store of a whole block. -/
theorem S_stW {o p : Operand} {t b e n : Nat} {vs cs : List Value} (hs : St c G (.blk b e cs :: H) w) (hS : ∀ w, (sizeOf t).run x.P w = .ok n w) (h1 : ev E o = some (.pointer (some ⟨b, 0, none⟩))) (h2 : ev E p = some (.agg vs.toArray))
    (hn : vs.length = n) (hc : cs.length = n) (hone : vs.all (·.oneCell') = true) (k : ∀ w', St c G (.blk b e vs :: H) w' → K undef w') : S x ⟨d, .store t o p, ty, pos, aft, g⟩ Q K E w :=
  S_stA hs hS h1 h2 hn hone (by omega) (by simp [← hc]) k
end
end Go.Ex
