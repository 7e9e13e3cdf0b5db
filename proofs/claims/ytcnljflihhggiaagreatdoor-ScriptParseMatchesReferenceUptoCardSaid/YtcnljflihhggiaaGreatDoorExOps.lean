/- The operations, one rule each. Y_..: quiet (no change); S_..: the memory changes. -/
import Derived.Test.YtcnljflihhggiaaGreatDoorExMem
import Derived.Laws.Entries
import Derived.Laws.Cells
import Derived.Laws.BytesArg
import Derived.Laws.OwnMore
import Derived.Laws.BitsLemmas
namespace Go.Ex
open Go Go.RowKit

section
variable {x : Cx} {W : World → Prop} {E : Env} {K : Value → Prop} {d : Option Tmp} {ty : TypeId} {pos : String} {aft : Array Edge} {g : Option (Nat × Bool)}

theorem Y_of {o : Oper} {v : Value} (h : ∀ a, Ag x.N E a → ∀ w, W w → (execOp a.eval o).run x.P w = .ok (.value v) w) (k : K v) : Y x W o E K := ⟨v, h, k⟩

theorem Y_move {o : Operand} {v : Value} (h : ev E o = some v) (k : K v) : Y x W ⟨d, .move o, ty, pos, aft, g⟩ E K :=
  Y_of (v := v) (fun a ha w _ => by simp [execOp, ha.ev h]) k
theorem Y_assign {o : Operand} {v : Value} (h : ev E o = some v) (k : K v) : Y x W ⟨d, .assign o, ty, pos, aft, g⟩ E K :=
  Y_of (v := v) (fun a ha w _ => by simp [execOp, ha.ev h]) k
theorem Y_pickT {c o p : Operand} {v : Value} (hc : ev E c = some (.bool true)) (h : ev E o = some v) (k : K v) : Y x W ⟨d, .pick c o p, ty, pos, aft, g⟩ E K :=
  Y_of (v := v) (fun a ha w _ => by simp [execOp, ha.ev h, ha.ev hc, asBool]) k
theorem Y_pickF {c o p : Operand} {v : Value} (hc : ev E c = some (.bool false)) (h : ev E p = some v) (k : K v) : Y x W ⟨d, .pick c o p, ty, pos, aft, g⟩ E K :=
  Y_of (v := v) (fun a ha w _ => by simp [execOp, ha.ev h, ha.ev hc, asBool]) k
theorem Y_nil {o : Operand} {p : Addr} (h : ev E o = some (.pointer (some p))) (k : K (.pointer (some p))) : Y x W ⟨d, .nilCheck o, ty, pos, aft, g⟩ E K :=
  Y_of (v := .pointer (some p)) (fun a ha w _ => by simp [execOp, ha.ev h]) k
theorem Y_extract {o : Operand} {i : Nat} {vs : Array Value} {v : Value} (h : ev E o = some (.tuple vs)) (hi : vs[i]? = some v) (k : K v) : Y x W ⟨d, .extract o i, ty, pos, aft, g⟩ E K :=
  Y_of (v := v) (fun a ha w _ => by simp [execOp, ha.ev h, Instr.extract, hi]) k

/-! #### integers -/
section
variable {xt yt : TypeId} {o p : Operand} {kd : IntKind} {a b : Int}

theorem run_arith {op : BinOp} {w : World} {r : Value} (hop : op = .add ∨ op = .sub ∨ op = .mul ∨ op = .and ∨ op = .or ∨ op = .xor ∨ op = .andNot ∨ op = .quo ∨ op = .rem ∨ op = .lss ∨ op = .leq ∨ op = .gtr ∨ op = .geq ∨ op = .eql ∨ op = .neq)
    (h : (binOp op xt (.int kd a) (.int kd b)).run x.P w = .ok r w) {f : Act} (ho : f.eval o = .int kd a) (hp : f.eval p = .int kd b) :
    (execOp f.eval ⟨d, .binOp op xt o p yt, ty, pos, aft, g⟩).run x.P w = .ok (.value r) w := by
  have he : eqGuard op xt o p (.int kd a) (.int kd b) = pure () := by rcases hop with h|h|h|h|h|h|h|h|h|h|h|h|h|h|h <;> subst h <;> rfl
  simp only [execOp, ho, hp, he]
  simp [h]

theorem Y_addW (h1 : ev E o = some (.int kd a)) (h2 : ev E p = some (.int kd b)) (k : K (.int kd (kd.wrap (a + b)))) : Y x W ⟨d, .binOp .add xt o p yt, ty, pos, aft, g⟩ E K :=
  Y_of (v := .int kd (kd.wrap (a + b))) (fun f hf w _ => run_arith (by simp) (by simp [binOp, Op.intArith]) (hf.ev h1) (hf.ev h2)) k
theorem Y_subW (h1 : ev E o = some (.int kd a)) (h2 : ev E p = some (.int kd b)) (k : K (.int kd (kd.wrap (a - b)))) : Y x W ⟨d, .binOp .sub xt o p yt, ty, pos, aft, g⟩ E K :=
  Y_of (v := .int kd (kd.wrap (a - b))) (fun f hf w _ => run_arith (by simp) (by simp [binOp, Op.intArith]) (hf.ev h1) (hf.ev h2)) k
theorem Y_mulW (h1 : ev E o = some (.int kd a)) (h2 : ev E p = some (.int kd b)) (k : K (.int kd (kd.wrap (a * b)))) : Y x W ⟨d, .binOp .mul xt o p yt, ty, pos, aft, g⟩ E K :=
  Y_of (v := .int kd (kd.wrap (a * b))) (fun f hf w _ => run_arith (by simp) (by simp [binOp, Op.intArith]) (hf.ev h1) (hf.ev h2)) k

theorem wrap64_eq {n : Int} (h : -9223372036854775808 ≤ n ∧ n ≤ 9223372036854775807) : IntKind.i64.wrap n = n := by rw [IntKind.wrap_i64]; omega

theorem Y_add {c : Int} (h1 : ev E o = some (.int .i64 a)) (h2 : ev E p = some (.int .i64 b)) (hc : a + b = c) (hb : -9223372036854775808 ≤ c ∧ c ≤ 9223372036854775807) (k : K (.int .i64 c)) : Y x W ⟨d, .binOp .add xt o p yt, ty, pos, aft, g⟩ E K :=
  Y_addW h1 h2 (by rw [hc, wrap64_eq hb]; exact k)
theorem Y_sub {c : Int} (h1 : ev E o = some (.int .i64 a)) (h2 : ev E p = some (.int .i64 b)) (hc : a - b = c) (hb : -9223372036854775808 ≤ c ∧ c ≤ 9223372036854775807) (k : K (.int .i64 c)) : Y x W ⟨d, .binOp .sub xt o p yt, ty, pos, aft, g⟩ E K :=
  Y_subW h1 h2 (by rw [hc, wrap64_eq hb]; exact k)
theorem Y_mul {c : Int} (h1 : ev E o = some (.int .i64 a)) (h2 : ev E p = some (.int .i64 b)) (hc : a * b = c) (hb : -9223372036854775808 ≤ c ∧ c ≤ 9223372036854775807) (k : K (.int .i64 c)) : Y x W ⟨d, .binOp .mul xt o p yt, ty, pos, aft, g⟩ E K :=
  Y_mulW h1 h2 (by rw [hc, wrap64_eq hb]; exact k)
/-- x / y where x is not negative and y is positive. -/
theorem Y_quo {c : Int} (h1 : ev E o = some (.int .i64 a)) (h2 : ev E p = some (.int .i64 b)) (ha : 0 ≤ a ∧ a ≤ 9223372036854775807) (hb : 0 < b) (hc : a / b = c) (k : K (.int .i64 c)) : Y x W ⟨d, .binOp .quo xt o p yt, ty, pos, aft, g⟩ E K := by
  have h3 : (0 : Int) ≤ a / b := Int.ediv_nonneg ha.1 (by omega)
  have h4 : a / b ≤ a := Int.ediv_le_self b ha.1
  have e : (IntKind.i64.wrap (a.tdiv b)) = c := by rw [Int.tdiv_eq_ediv_of_nonneg ha.1, wrap64_eq (by omega), hc]
  exact Y_of (v := .int .i64 c) (fun f hf w _ => run_arith (by simp) (by simp [binOp, Op.intDiv, show b ≠ 0 by omega, e]) (hf.ev h1) (hf.ev h2)) k
theorem Y_quoU {c : Int} (h1 : ev E o = some (.int .u8 a)) (h2 : ev E p = some (.int .u8 b)) (ha : 0 ≤ a ∧ a ≤ 255) (hb : 0 < b) (hc : a / b = c) (k : K (.int .u8 c)) : Y x W ⟨d, .binOp .quo xt o p yt, ty, pos, aft, g⟩ E K := by
  have h3 : (0 : Int) ≤ a / b := Int.ediv_nonneg ha.1 (by omega)
  have h4 : a / b ≤ a := Int.ediv_le_self b ha.1
  have e : (IntKind.u8.wrap (a.tdiv b)) = c := by rw [Int.tdiv_eq_ediv_of_nonneg ha.1, IntKind.wrap_u8]; omega
  exact Y_of (v := .int .u8 c) (fun f hf w _ => run_arith (by simp) (by simp [binOp, Op.intDiv, show b ≠ 0 by omega, e]) (hf.ev h1) (hf.ev h2)) k
theorem Y_rem {c : Int} (h1 : ev E o = some (.int kd a)) (h2 : ev E p = some (.int kd b)) (ha : 0 ≤ a) (hb : b ≠ 0) (hc : a % b = c) (k : K (.int kd c)) : Y x W ⟨d, .binOp .rem xt o p yt, ty, pos, aft, g⟩ E K := by
  have e : a.tmod b = c := by rw [Int.tmod_eq_emod_of_nonneg ha, hc]
  exact Y_of (v := .int kd c) (fun f hf w _ => run_arith (by simp) (by simp [binOp, Op.intDiv, hb, e]) (hf.ev h1) (hf.ev h2)) k

def bitsI (op : BinOp) (kd : IntKind) (a b : Int) : Int :=
  match op with
  | .and => kd.wrap (BitVec.ofInt kd.bits a &&& BitVec.ofInt kd.bits b).toNat
  | .or => kd.wrap (BitVec.ofInt kd.bits a ||| BitVec.ofInt kd.bits b).toNat
  | .xor => kd.wrap (BitVec.ofInt kd.bits a ^^^ BitVec.ofInt kd.bits b).toNat
  | _ => kd.wrap (BitVec.ofInt kd.bits a &&& ~~~BitVec.ofInt kd.bits b).toNat
theorem Y_bits {op : BinOp} {c : Int} (h1 : ev E o = some (.int kd a)) (h2 : ev E p = some (.int kd b)) (hop : op = .and ∨ op = .or ∨ op = .xor ∨ op = .andNot) (hc : bitsI op kd a b = c) (k : K (.int kd c)) : Y x W ⟨d, .binOp op xt o p yt, ty, pos, aft, g⟩ E K := by
  subst hc
  refine Y_of (v := .int kd (bitsI op kd a b)) (fun f hf w _ => run_arith (by rcases hop with h|h|h|h <;> subst h <;> simp) ?_ (hf.ev h1) (hf.ev h2)) k
  rcases hop with h|h|h|h <;> subst h <;> simp [binOp, Op.intBits, bitsI]

theorem Y_shl {kd' : IntKind} {c : Int} (h1 : ev E o = some (.int kd a)) (h2 : ev E p = some (.int kd' b)) (hb : 0 ≤ b) (hc : kd.wrap (a * 2 ^ (min b.toNat kd.bits)) = c) (k : K (.int kd c)) : Y x W ⟨d, .binOp .shl xt o p yt, ty, pos, aft, g⟩ E K := by
  refine Y_of (v := .int kd c) (fun f hf w _ => ?_) k
  have he : eqGuard .shl xt o p (.int kd a) (.int kd' b) = pure () := rfl
  simp only [execOp, hf.ev h1, hf.ev h2, he]
  simp [binOp, Op.shift, show ¬ b < 0 by omega, hc]
theorem Y_shr {kd' : IntKind} {c : Int} (h1 : ev E o = some (.int kd a)) (h2 : ev E p = some (.int kd' b)) (hb : 0 ≤ b) (hc : a.fdiv (2 ^ (min b.toNat kd.bits)) = c) (k : K (.int kd c)) : Y x W ⟨d, .binOp .shr xt o p yt, ty, pos, aft, g⟩ E K := by
  refine Y_of (v := .int kd c) (fun f hf w _ => ?_) k
  have he : eqGuard .shr xt o p (.int kd a) (.int kd' b) = pure () := rfl
  simp only [execOp, hf.ev h1, hf.ev h2, he]
  simp [binOp, Op.shift, show ¬ b < 0 by omega, hc]

@[reducible] def cmpP (op : BinOp) (a b : Int) : Prop :=
  match op with
  | .eql => a = b | .neq => a ≠ b | .lss => a < b | .leq => a ≤ b | .gtr => b < a | _ => b ≤ a
def isCmp : BinOp → Bool
  | .eql | .neq | .lss | .leq | .gtr | .geq => true
  | _ => false
theorem Y_cmpB {op : BinOp} {t : Bool} (h1 : ev E o = some (.int kd a)) (h2 : ev E p = some (.int kd b)) (hop : isCmp op = true) (ht : cmpP op a b ↔ t = true) (k : K (.bool t)) : Y x W ⟨d, .binOp op xt o p yt, ty, pos, aft, g⟩ E K := by
  refine Y_of (v := .bool t) (fun f hf w _ => run_arith ?_ ?_ (hf.ev h1) (hf.ev h2)) k
  · cases op <;> simp [isCmp] at hop <;> simp
  · cases op <;> simp [isCmp] at hop <;> simp only [cmpP] at ht <;> simp [binOp, Op.intCmp] <;> cases t <;> simp_all
theorem Y_cmpT {op : BinOp} (h1 : ev E o = some (.int kd a)) (h2 : ev E p = some (.int kd b)) (hop : isCmp op = true) (ht : cmpP op a b) (k : K (.bool true)) : Y x W ⟨d, .binOp op xt o p yt, ty, pos, aft, g⟩ E K :=
  Y_cmpB h1 h2 hop (by simp [ht]) k
theorem Y_cmpF {op : BinOp} (h1 : ev E o = some (.int kd a)) (h2 : ev E p = some (.int kd b)) (hop : isCmp op = true) (ht : ¬ cmpP op a b) (k : K (.bool false)) : Y x W ⟨d, .binOp op xt o p yt, ty, pos, aft, g⟩ E K :=
  Y_cmpB h1 h2 hop (by simp [ht]) k
/-- Both ways. -/
theorem Y_cmpS {op : BinOp} (h1 : ev E o = some (.int kd a)) (h2 : ev E p = some (.int kd b)) (hop : isCmp op = true) (hT : cmpP op a b → K (.bool true)) (hF : ¬ cmpP op a b → K (.bool false)) : Y x W ⟨d, .binOp op xt o p yt, ty, pos, aft, g⟩ E K := by
  by_cases h : cmpP op a b
  · exact Y_cmpT h1 h2 hop h (hT h)
  · exact Y_cmpF h1 h2 hop h (hF h)
end

theorem Y_not {o : Operand} {t : Bool} {xt : TypeId} (h : ev E o = some (.bool t)) (k : K (.bool !t)) : Y x W ⟨d, .unOp .not xt o, ty, pos, aft, g⟩ E K :=
  Y_of (v := .bool !t) (fun a ha w _ => by simp [execOp, ha.ev h, Op.unary]) k
theorem Y_neg {o : Operand} {n c : Int} {xt : TypeId} (h : ev E o = some (.int .i64 n)) (hc : -n = c) (hb : -9223372036854775808 ≤ c ∧ c ≤ 9223372036854775807) (k : K (.int .i64 c)) : Y x W ⟨d, .unOp .neg xt o, ty, pos, aft, g⟩ E K :=
  Y_of (v := .int .i64 c) (fun a ha w _ => by
    have : IntKind.i64.wrap (0 - n) = c := by rw [wrap64_eq (by omega)]; omega
    simp [execOp, ha.ev h, Op.unary, Op.intArith] at this ⊢; simpa using this) k

/-- A conversion between integer types. -/
theorem Y_conv {o : Operand} {src dst : TypeId} {kd kd' : IntKind} {n c : Int} {td : TypeDesc} (hs : x.P.underlying src = some td) (hu : x.P.underlying dst = some (.int kd')) (h : ev E o = some (.int kd n)) (hc : kd'.wrap n = c)
    (k : K (.int kd' c)) : Y x W ⟨d, .convert src dst o, ty, pos, aft, g⟩ E K :=
  Y_of (v := .int kd' c) (fun a ha w _ => by
    have h1 : (underlying src).run x.P w = .ok td w := run_underlying hs w
    have h2 : (underlying dst).run x.P w = .ok (.int kd') w := run_underlying hu w
    simp only [execOp, convert, ha.ev h]
    cases td <;> simp [h1, h2, Conv.intToInt, hc]) k

/-! #### len, min, max -/
theorem Y_len {o : Operand} {t e : TypeId} {A : Option Addr} {n c : Nat} (hu : x.P.underlying t = some (.slice e)) (h : ev E o = some (.slice A n c)) (k : K (.int .i64 (n : Int))) :
    Y x W ⟨d, .call { callee := .builtin .len, args := #[o], argTypes := #[t] }, ty, pos, aft, g⟩ E K :=
  Y_of (v := .int .i64 (n : Int)) (fun a ha w _ => by
    simp [execOp, resolve, invoke, builtin, Builtin.len_, ha.ev h, run_underlying hu, goInt]) k
theorem Y_lenS {o : Operand} {t : TypeId} {s : ByteArray} (hu : x.P.underlying t = some .string) (h : ev E o = some (.string s)) (k : K (.int .i64 (s.size : Int))) :
    Y x W ⟨d, .call { callee := .builtin .len, args := #[o], argTypes := #[t] }, ty, pos, aft, g⟩ E K :=
  Y_of (v := .int .i64 (s.size : Int)) (fun a ha w _ => by
    simp [execOp, resolve, invoke, builtin, Builtin.len_, ha.ev h, run_underlying hu, goInt]) k
theorem Y_min {o p : Operand} {t u : TypeId} {kd : IntKind} {m n c : Int} (h1 : ev E o = some (.int kd m)) (h2 : ev E p = some (.int kd n)) (hc : min m n = c) (k : K (.int kd c)) :
    Y x W ⟨d, .call { callee := .builtin .min, args := #[o, p], argTypes := #[t, u] }, ty, pos, aft, g⟩ E K :=
  Y_of (v := .int kd c) (fun a ha w _ => by
    have : (if n < m then n else m) = c := by rw [← hc]; split <;> omega
    simp [execOp, resolve, invoke, builtin, Builtin.min_, Builtin.min2, ha.ev h1, ha.ev h2, this]) k
theorem Y_max {o p : Operand} {t u : TypeId} {kd : IntKind} {m n c : Int} (h1 : ev E o = some (.int kd m)) (h2 : ev E p = some (.int kd n)) (hc : max m n = c) (k : K (.int kd c)) :
    Y x W ⟨d, .call { callee := .builtin .max, args := #[o, p], argTypes := #[t, u] }, ty, pos, aft, g⟩ E K :=
  Y_of (v := .int kd c) (fun a ha w _ => by
    have : (if n > m then n else m) = c := by rw [← hc]; split <;> omega
    simp [execOp, resolve, invoke, builtin, Builtin.max_, Builtin.max2, ha.ev h1, ha.ev h2, this]) k

/-! #### structs -/
/-- Where field i of struct s lies (none: a field without cells). -/
def fieldOff (P : Program) (s i : Nat) : Option Nat :=
  match P.underlying s with
  | some (.struct fs) => (fs[i]?).bind fun f => (P.info? f.type).bind fun t => if t.size = 0 then none else some f.offset
  | _ => none
theorem Y_fieldAddr {o : Operand} {s i b j n : Nat} {m : Nat} (hf : fieldOff x.P s i = some n) (h : ev E o = some (.pointer (some ⟨b, j, none⟩))) (hm : j + n = m) (k : K (.pointer (some ⟨b, m, none⟩))) :
    Y x W ⟨d, .fieldAddr s o i, ty, pos, aft, g⟩ E K :=
  Y_of (v := .pointer (some ⟨b, m, none⟩)) (fun a ha w _ => by
    unfold fieldOff at hf
    cases hu : x.P.underlying s with
    | none => rw [hu] at hf; cases hf
    | some td =>
      rw [hu] at hf
      cases td with
      | struct fs =>
        simp only at hf
        cases hi : fs[i]? with
        | none => rw [hi] at hf; cases hf
        | some f =>
          rw [hi] at hf
          simp only [Option.bind_some] at hf
          cases ht : x.P.info? f.type with
          | none => rw [ht] at hf; cases hf
          | some t =>
            rw [ht] at hf
            simp only [Option.bind_some] at hf
            split at hf
            · cases hf
            · rename_i hz
              injection hf with hf
              have hadd : (⟨b, j, none⟩ : Addr).add f.offset = ⟨b, m, none⟩ := by
                subst hm hf
                unfold Addr.add; split
                · rename_i h0; simp [h0]
                · rfl
              simp [execOp, ha.ev h, Instr.fieldAt, Instr.sureAddr, run_underlying hu, hi, fieldPlace, sizeOf, typeInfo, ht, hz, hadd]
      | _ => simp at hf) k

/-! #### loads -/
/-- One cell of a block that is owned. -/
theorem Y_ld {o : Operand} {t e b j : Nat} {c : Ctx} {G : Ghost} {H : List Res} {cs : List Value} {v : Value} (i : Nat) (hA : ∀ w, (isAgg t).run x.P w = .ok false w) (h : ev E o = some (.pointer (some ⟨b, j, none⟩)))
    (hi : H[i]? = some (.blk b e cs)) (hj : cs[j]? = some v) (k : K v) : Y x (St c G H) ⟨d, .load t o, ty, pos, aft, g⟩ E K :=
  Y_of (v := v) (fun a ha w hw => by
    have hb : w.heap[b]? = some (.cells cs.toArray e (0, 0)) := hw.hold _ (List.mem_of_getElem? hi)
    have hc : w.cell? ⟨b, j, none⟩ = some v := by simp [World.cell?, hb, hj]
    simp [execOp, ha.ev h, Instr.loadAt, Instr.sureAddr, loadVar, hA w, hc]) k
/-- A cell that never changes. -/
theorem Y_ldG {o : Operand} {t : Nat} {p : Addr} {c : Ctx} {G : Ghost} {H : List Res} {v : Value} (hA : ∀ w, (isAgg t).run x.P w = .ok false w) (h : ev E o = some (.pointer (some p)))
    (hp : gcell G p = some v) (k : K v) : Y x (St c G H) ⟨d, .load t o, ty, pos, aft, g⟩ E K :=
  Y_of (v := v) (fun a ha w hw => by
    have hc := hw.cell hp
    simp [execOp, ha.ev h, Instr.loadAt, Instr.sureAddr, loadVar, hA w, hc]) k

theorem run_loadVar_agg {P : Program} {t n : Nat} {p : Addr} {cs : List Value} {w : World} (hA : (isAgg t).run P w = .ok true w) (hS : (sizeOf t).run P w = .ok n w) (hn : cs.length = n)
    (hc : ∀ j u, cs[j]? = some u → w.cell? (p.add j) = some u) : (loadVar t p).run P w = .ok (.agg cs.toArray) w := by
  subst hn
  have := run_loadCells_list (P := P) w p cs hc
  simp [loadVar, hA, hS, this]
/-- A whole struct (array) out of an owned block. -/
theorem Y_ldA {o : Operand} {t e b j n : Nat} {c : Ctx} {G : Ghost} {H : List Res} {cs vs : List Value} (i : Nat) (hA : ∀ w, (isAgg t).run x.P w = .ok true w) (hS : ∀ w, (sizeOf t).run x.P w = .ok n w) (h : ev E o = some (.pointer (some ⟨b, j, none⟩)))
    (hi : H[i]? = some (.blk b e cs)) (hv : (cs.drop j).take n = vs) (hn : vs.length = n) (k : K (.agg vs.toArray)) : Y x (St c G H) ⟨d, .load t o, ty, pos, aft, g⟩ E K :=
  Y_of (v := .agg vs.toArray) (fun a ha w hw => by
    have hb : w.heap[b]? = some (.cells cs.toArray e (0, 0)) := hw.hold _ (List.mem_of_getElem? hi)
    have hl := run_loadVar_agg (P := x.P) (t := t) (p := ⟨b, j, none⟩) (hA w) (hS w) hn (fun q u hq => by
      have hadd : ((⟨b, j, none⟩ : Addr).add q) = ⟨b, j + q, none⟩ := by
        unfold Addr.add; split
        · rename_i h0; simp [h0]
        · rfl
      have hqn : q < n := by
        rcases Nat.lt_or_ge q n with h' | h'
        · exact h'
        · rw [List.getElem?_eq_none (by omega)] at hq; cases hq
      rw [← hv, List.getElem?_take_of_lt hqn, List.getElem?_drop] at hq
      rw [hadd]
      simp [World.cell?, hb, hq])
    simp [execOp, ha.ev h, Instr.loadAt, Instr.sureAddr, hl]) k
/-- A whole struct that never changes. -/
theorem Y_ldAG {o : Operand} {t n : Nat} {p : Addr} {c : Ctx} {G : Ghost} {H : List Res} {vs : List Value} (hA : ∀ w, (isAgg t).run x.P w = .ok true w) (hS : ∀ w, (sizeOf t).run x.P w = .ok n w) (h : ev E o = some (.pointer (some p)))
    (hp : ∀ j u, vs[j]? = some u → gcell G (p.add j) = some u) (hn : vs.length = n) (k : K (.agg vs.toArray)) : Y x (St c G H) ⟨d, .load t o, ty, pos, aft, g⟩ E K :=
  Y_of (v := .agg vs.toArray) (fun a ha w hw => by
    have hl := run_loadVar_agg (P := x.P) (t := t) (p := p) (hA w) (hS w) hn (fun q u hq => hw.cell (hp q u hq))
    simp [execOp, ha.ev h, Instr.loadAt, Instr.sureAddr, hl]) k

/-! #### slices -/
/-- The address of an element: p, where the element's cells lie. -/
theorem Y_idx {o q : Operand} {t e : TypeId} {kd : IntKind} {n s : Nat} {j : Int} {v : Value} {xs : List Value} {G : Ghost} (i : Nat) (hu : x.P.underlying t = some (.slice e)) (hs : ∀ w, (sizeOf e).run x.P w = .ok s w)
    (hS : Sl G v s n xs) (h1 : ev E o = some v) (h2 : ev E q = some (.int kd j)) (hj : j = (i : Int)) (hlt : i < n)
    (k : ∀ p, (∀ r u, xs[i * s + r]? = some u → gcell G (p.add r) = some u) → K (.pointer (some p))) : Y x W ⟨d, .indexAddr t o q, ty, pos, aft, g⟩ E K := by
  obtain ⟨A, c, rfl, _, _, _, hA⟩ := hS
  obtain ⟨a, rfl, hc⟩ := hA (by omega)
  subst hj
  refine Y_of (v := .pointer (some (a.add (i * s)))) (fun f hf w _ => ?_) (k _ fun r u hr => by rw [addr_add_add]; exact hc _ u hr)
  simp [execOp, hf.ev h1, hf.ev h2, Instr.indexAt, asIntOf, run_underlying hu, hs w, hlt]
/-- A slice of a slice. -/
theorem sl_slice {G : Ghost} {A : Option Addr} {s n c l h : Nat} {xs : List Value} (hS : Sl G (.slice A n c) s n xs) (hl : l ≤ h) (hh : h ≤ n) :
    Sl G (.slice (if c = l then A else A.map (·.add (l * s))) (h - l) (c - l)) s (h - l) ((xs.drop (l * s)).take ((h - l) * s)) := by
  obtain ⟨A', c', he, h1, h2, h3, h4⟩ := hS
  injection he with e1 _ e3
  subst e1 e3
  have hmul : l * s + (h - l) * s = h * s := by rw [← Nat.add_mul]; congr 1; omega
  have hle : h * s ≤ n * s := Nat.mul_le_mul_right _ hh
  refine ⟨_, _, rfl, ?_, by omega, by omega, fun hn => ?_⟩
  · rw [List.length_take, List.length_drop, h1]; omega
  · obtain ⟨a, rfl, hc⟩ := h4 (by omega)
    rw [if_neg (by omega)]
    refine ⟨a.add (l * s), rfl, fun j u hj => ?_⟩
    rw [addr_add_add]
    have hjl : j < (h - l) * s := by
      rcases Nat.lt_or_ge j ((h - l) * s) with h' | h'
      · exact h'
      · rw [List.getElem?_eq_none (by rw [List.length_take]; omega)] at hj; cases hj
    rw [List.getElem?_take_of_lt hjl, List.getElem?_drop] at hj
    exact hc _ u hj

def bnd (E : Env) (o : Option Operand) (dflt n : Nat) : Prop :=
  match o with
  | none => n = dflt
  | some q => ∃ kd j, ev E q = some (.int kd j) ∧ j = (n : Int)
theorem Y_slice {o : Operand} {lo hi : Option Operand} {t e : TypeId} {n s : Nat} {v : Value} {xs : List Value} {G : Ghost} (l h : Nat) (hu : x.P.underlying t = some (.slice e)) (hs : ∀ w, (sizeOf e).run x.P w = .ok s w)
    (hS : Sl G v s n xs) (h1 : ev E o = some v) (hlo : bnd E lo 0 l) (hhi : bnd E hi n h) (hl : l ≤ h) (hh : h ≤ n)
    (k : ∀ v', Sl G v' s (h - l) ((xs.drop (l * s)).take ((h - l) * s)) → K v') : Y x W ⟨d, .slice t o lo hi none, ty, pos, aft, g⟩ E K := by
  have hS' := hS
  obtain ⟨A, c, rfl, _, hnc, _, _⟩ := hS'
  refine Y_of (v := .slice (if c = l then A else A.map (·.add (l * s))) (h - l) (c - l)) (fun f hf w _ => ?_) (k _ (sl_slice hS hl hh))
  have b1 : h ≤ c := by omega
  cases lo with
  | none =>
    obtain rfl : l = 0 := hlo
    cases hi with
    | none =>
      obtain rfl : h = n := hhi
      simp [execOp, hf.ev h1, Instr.sliceAt, Instr.slice, Instr.sliceBounds, run_underlying hu, hs w]
    | some q =>
      obtain ⟨kd, j, hq, rfl⟩ := hhi
      simp [execOp, hf.ev h1, hf.ev hq, Instr.sliceAt, Instr.slice, Instr.sliceBounds, Instr.sliceBound, asIntOf, run_underlying hu, hs w, b1]
  | some q =>
    obtain ⟨kd, j, hq, rfl⟩ := hlo
    cases hi with
    | none =>
      obtain rfl : h = n := hhi
      simp [execOp, hf.ev h1, hf.ev hq, Instr.sliceAt, Instr.slice, Instr.sliceBounds, Instr.sliceBound, asIntOf, run_underlying hu, hs w, hl]
    | some q' =>
      obtain ⟨kd', j', hq', rfl⟩ := hhi
      simp [execOp, hf.ev h1, hf.ev hq, hf.ev hq', Instr.sliceAt, Instr.slice, Instr.sliceBounds, Instr.sliceBound, asIntOf, run_underlying hu, hs w, b1, hl]
end
end Go.Ex
