/- What the functions of package stream compute, on plain data; and how a decoder lies in memory. -/
import Derived.Test.YtacchhkefnokdaaExRange
namespace Go.Proofs.Ytacchhkefnokdaa
open Go Go.Ex Go.RowKit

structure Dec where
  rest : List UInt8
  credit : Int
  failed : Bool
deriving DecidableEq

def DecR (G : Ghost) (v : Value) (d : Dec) : Prop := ∃ u, v = .agg #[u, .int .i64 d.credit, .bool d.failed] ∧ Bytes G u d.rest
theorem DecR.mono {G G' : Ghost} (h : G.le G') {v : Value} {d : Dec} (hd : DecR G v d) : DecR G' v d := by
  obtain ⟨u, h1, h2⟩ := hd
  exact ⟨u, h1, h2.mono h⟩

def frameL (bs : List UInt8) : List UInt8 := UInt8.ofNat (bs.length / 256) :: UInt8.ofNat bs.length :: bs
theorem frameL_length (bs : List UInt8) : (frameL bs).length = 2 + bs.length := by simp [frameL]; omega
def frameF (bs : List UInt8) : List UInt8 × Int := if bs.length ≤ 4096 then (frameL bs, 0) else ([], 2)

def validB (d : Dec) : Bool := decide (d.rest.length ≤ 4098) && (decide (0 ≤ d.credit) && decide (d.credit ≤ 1073741824))
def newF (n : Int) : Dec × Int := if 0 ≤ n ∧ n ≤ 1073741824 then (⟨[], n, false⟩, 0) else (⟨[], 0, false⟩, 1)
theorem newF_t {n : Int} (h : 0 ≤ n ∧ n ≤ 1073741824) : newF n = (⟨[], n, false⟩, 0) := if_pos h
theorem newF_f {n : Int} (h : ¬ (0 ≤ n ∧ n ≤ 1073741824)) : newF n = (⟨[], 0, false⟩, 1) := if_neg h
def grantF (d : Dec) (n : Int) : Dec × Int := if validB d = true ∧ 0 ≤ n ∧ n ≤ 1073741824 - d.credit then (⟨d.rest, d.credit + n, d.failed⟩, 0) else (⟨[], 0, false⟩, 1)

theorem grantF_t {d : Dec} {n : Int} (h : validB d = true ∧ 0 ≤ n ∧ n ≤ 1073741824 - d.credit) : grantF d n = (⟨d.rest, d.credit + n, d.failed⟩, 0) := if_pos h
theorem grantF_f {d : Dec} {n : Int} (h : ¬ (validB d = true ∧ 0 ≤ n ∧ n ≤ 1073741824 - d.credit)) : grantF d n = (⟨[], 0, false⟩, 1) := if_neg h
theorem validB_iff {d : Dec} : validB d = true ↔ d.rest.length ≤ 4098 ∧ 0 ≤ d.credit ∧ d.credit ≤ 1073741824 := by simp [validB]

theorem validB_neg {d : Dec} (h : ¬ (d.rest.length ≤ 4098 ∧ 0 ≤ d.credit ∧ d.credit ≤ 1073741824)) : validB d = false := by
  cases hv : validB d with
  | false => rfl
  | true => exact absurd (validB_iff.1 hv) h

/-- Complete frames are taken from the beginning: what is left, the credit, whether a frame was too long, the messages. -/
structure Pr where
  rest : List UInt8
  credit : Int
  failed : Bool
  msgs : List (List UInt8)
def proc : Nat → List UInt8 → Int → Pr
  | f + 1, a :: b :: t, c =>
    if 4096 < 256 * a.toNat + b.toNat then ⟨[], c, true, []⟩
    else if 256 * a.toNat + b.toNat = 0 then proc f t c
    else if t.length < 256 * a.toNat + b.toNat ∨ c = 0 then ⟨a :: b :: t, c, false, []⟩
    else let p := proc f (t.drop (256 * a.toNat + b.toNat)) (c - 1); ⟨p.rest, p.credit, p.failed, t.take (256 * a.toNat + b.toNat) :: p.msgs⟩
  | _, r, c => ⟨r, c, false, []⟩

abbrev prF (d : Dec) (b : List UInt8) : Pr := proc (d.rest ++ b).length (d.rest ++ b) d.credit
def feedF (d : Dec) (b : List UInt8) : Dec × List (List UInt8) × Int :=
  if validB d = false then (⟨[], 0, false⟩, [], 1)
  else if d.failed = true then (d, [], 7)
  else if (prF d b).failed = true then (⟨(prF d b).rest, (prF d b).credit, true⟩, (prF d b).msgs, 4)
  else if 4098 < (prF d b).rest.length then (d, [], 320)
  else (⟨(prF d b).rest, (prF d b).credit, false⟩, (prF d b).msgs, 0)
section
variable {d : Dec} {b : List UInt8}
theorem feedF_bad (h : validB d = false) : feedF d b = (⟨[], 0, false⟩, [], 1) := if_pos h
theorem feedF_failed (h : validB d = true) (h2 : d.failed = true) : feedF d b = (d, [], 7) := by simp only [feedF]; rw [if_neg (by simp [h]), if_pos h2]
theorem feedF_form (h : validB d = true) (h2 : d.failed = false) (h3 : (prF d b).failed = true) : feedF d b = (⟨(prF d b).rest, (prF d b).credit, true⟩, (prF d b).msgs, 4) := by
  simp only [feedF]; rw [if_neg (by simp [h]), if_neg (by simp [h2]), if_pos h3]
theorem feedF_full (h : validB d = true) (h2 : d.failed = false) (h3 : (prF d b).failed = false) (h4 : 4098 < (prF d b).rest.length) : feedF d b = (d, [], 320) := by
  simp only [feedF]; rw [if_neg (by simp [h]), if_neg (by simp [h2]), if_neg (by simp [h3]), if_pos h4]
theorem feedF_ok (h : validB d = true) (h2 : d.failed = false) (h3 : (prF d b).failed = false) (h4 : ¬ 4098 < (prF d b).rest.length) : feedF d b = (⟨(prF d b).rest, (prF d b).credit, false⟩, (prF d b).msgs, 0) := by
  simp only [feedF]; rw [if_neg (by simp [h]), if_neg (by simp [h2]), if_neg (by simp [h3]), if_neg h4]
end
theorem u8wrap (n : Nat) : IntKind.u8.wrap (n : Int) = ((UInt8.ofNat n).toNat : Int) := by
  rw [IntKind.wrap_u8]; simp
theorem shr8 (n : Nat) : (n : Int).fdiv (2 ^ (min (8 : Int).toNat IntKind.i64.bits)) = ((n / 256 : Nat) : Int) := by
  rw [Int.fdiv_eq_ediv_of_nonneg _ (by decide)]; rfl
theorem Dec.iff_ {d e : Dec} : d = e ↔ d.rest = e.rest ∧ d.credit = e.credit ∧ d.failed = e.failed := by
  cases d; cases e; simp
theorem take_succ_eq {α : Type} {a b : List α} {k : Nat} (ha : k < a.length) (hb : k < b.length) (h : a.take k = b.take k) (h2 : a[k] = b[k]) : a.take (k + 1) = b.take (k + 1) := by
  rw [List.take_succ_eq_append_getElem ha, List.take_succ_eq_append_getElem hb, h, h2]
theorem take_all_eq {α : Type} {a b : List α} {k : Nat} (ha : a.length ≤ k) (hb : b.length ≤ k) (h : a.take k = b.take k) : a = b := by
  rwa [List.take_of_length_le ha, List.take_of_length_le hb] at h
theorem take_min {α : Type} (l : List α) (n : Nat) : l.take (min l.length n) = l.take n := by
  rcases Nat.le_total l.length n with h | h
  · rw [Nat.min_eq_left h, List.take_length, List.take_of_length_le h]
  · rw [Nat.min_eq_right h]
theorem flat_succ (l : List (List UInt8)) (k : Nat) (h : k < l.length) : (l.take (k + 1)).flatten = (l.take k).flatten ++ l[k] := by
  rw [List.take_succ_eq_append_getElem h, List.flatten_append]; simp
theorem flat_le (l : List (List UInt8)) (k : Nat) (h : k < l.length) : (l.take k).flatten.length + l[k].length ≤ l.flatten.length := by
  have h1 : l.flatten = (l.take (k + 1)).flatten ++ (l.drop (k + 1)).flatten := by rw [← List.flatten_append, List.take_append_drop]
  rw [h1, flat_succ l k h, List.length_append, List.length_append]; omega
def fewF (l : List (List UInt8)) : List (List UInt8) := (l.take 12).map (·.take 40)
/-- One frame, by the reference. -/
def stepF (d : Dec) : Dec × List UInt8 × Bool :=
  match d.rest with
  | a :: b :: t =>
    if 4096 < 256 * a.toNat + b.toNat then (⟨[], d.credit, true⟩, [], false)
    else if 256 * a.toNat + b.toNat = 0 then (⟨t, d.credit, d.failed⟩, [], true)
    else if t.length < 256 * a.toNat + b.toNat ∨ d.credit = 0 then (d, [], false)
    else (⟨t.drop (256 * a.toNat + b.toNat), d.credit - 1, false⟩, t.take (256 * a.toNat + b.toNat), true)
  | _ => (d, [], false)
theorem two_le {l : List UInt8} (h : 2 ≤ l.length) : ∃ a b t, l = a :: b :: t := by
  match l, h with
  | a :: b :: t, _ => exact ⟨a, b, t, rfl⟩
theorem stepF_short {d : Dec} (h : d.rest.length < 2) : stepF d = (d, [], false) := by
  obtain ⟨r, c, f⟩ := d
  match r, h with
  | [], _ => rfl
  | [_], _ => rfl
section
variable {a b : UInt8} {t : List UInt8} {c : Int} {f : Bool}
theorem stepF_big (h : 4096 < 256 * a.toNat + b.toNat) : stepF ⟨a :: b :: t, c, f⟩ = (⟨[], c, true⟩, [], false) := by simp [stepF, h]
theorem stepF_zero (h : 256 * a.toNat + b.toNat = 0) : stepF ⟨a :: b :: t, c, f⟩ = (⟨t, c, f⟩, [], true) := by simp only [stepF]; rw [if_neg (by omega), if_pos h]
theorem stepF_wait (h1 : ¬ 4096 < 256 * a.toNat + b.toNat) (h2 : ¬ 256 * a.toNat + b.toNat = 0) (h3 : t.length < 256 * a.toNat + b.toNat ∨ c = 0) : stepF ⟨a :: b :: t, c, f⟩ = (⟨a :: b :: t, c, f⟩, [], false) := by
  simp only [stepF]; rw [if_neg h1, if_neg h2, if_pos h3]
theorem stepF_take (h1 : ¬ 4096 < 256 * a.toNat + b.toNat) (h2 : ¬ 256 * a.toNat + b.toNat = 0) (h3 : ¬ (t.length < 256 * a.toNat + b.toNat ∨ c = 0)) :
    stepF ⟨a :: b :: t, c, f⟩ = (⟨t.drop (256 * a.toNat + b.toNat), c - 1, false⟩, t.take (256 * a.toNat + b.toNat), true) := by
  simp only [stepF]; rw [if_neg h1, if_neg h2, if_neg h3]
end
def wireF (L : List (List UInt8)) (tail : List UInt8) : List UInt8 := ((fewF L).map frameL).flatten ++ tail.take 60
theorem fewF_len (l : List (List UInt8)) : (fewF l).length ≤ 12 := by simp [fewF]; omega
theorem fewF_le (l : List (List UInt8)) : ∀ x ∈ fewF l, x.length ≤ 40 := by
  intro x hx
  obtain ⟨y, _, rfl⟩ := List.mem_map.1 hx
  rw [List.length_take]; omega
theorem few_end {l : List (List UInt8)} {k : Nat} (hk : k ≤ l.length) (hk' : k ≤ 12) (h : l.length ≤ k ∨ 12 ≤ k) : (l.take k).map (·.take 40) = fewF l := by
  unfold fewF
  congr 1
  rcases h with h | h
  · rw [List.take_of_length_le h, List.take_of_length_le (by omega)]
  · rw [show k = 12 by omega]
theorem map_take_succ (f : List UInt8 → List UInt8) (l : List (List UInt8)) (k : Nat) (h : k < l.length) : (l.take (k + 1)).map f = (l.take k).map f ++ [f l[k]] := by
  rw [List.take_succ_eq_append_getElem h, List.map_append]; rfl
theorem wire_succ (l : List (List UInt8)) (k : Nat) (h : k < l.length) : ((l.take (k + 1)).map frameL).flatten = ((l.take k).map frameL).flatten ++ frameL l[k] := by
  rw [map_take_succ frameL l k h, List.flatten_append]; simp
theorem wire_le {l : List (List UInt8)} (h : ∀ x ∈ l, x.length ≤ 40) : ∀ k, ((l.take k).map frameL).flatten.length ≤ 42 * k
  | 0 => by simp
  | k + 1 => by
    rcases Nat.lt_or_ge k l.length with hk | hk
    · rw [wire_succ l k hk, List.length_append, frameL_length]
      have := wire_le h k
      have := h l[k] (List.getElem_mem hk)
      omega
    · rw [List.take_of_length_le (by omega)]
      have := wire_le h k
      rw [List.take_of_length_le hk] at this
      omega
theorem frameL_map' (bs : List UInt8) : (frameL bs).map byteV = [.int .u8 ((UInt8.ofNat (bs.length / 256)).toNat : Int), .int .u8 ((UInt8.ofNat (bs.length % 256)).toNat : Int)] ++ bs.map byteV := by
  have : UInt8.ofNat (bs.length % 256) = UInt8.ofNat bs.length := by
    apply UInt8.toNat_inj.1; simp
  rw [this]; rfl
theorem wireF_eq (L : List (List UInt8)) (tail : List UInt8) : ((fewF L).map frameL).flatten ++ (tail.drop 0).take (min tail.length 60 - 0) = wireF L tail := by simp [wireF, take_min]
theorem dt (a b : UInt8) (t : List UInt8) (n : Nat) : ((a :: b :: t).drop (n + 2)).take ((a :: b :: t).length - (n + 2)) = t.drop n := by
  rw [List.take_of_length_le (by rw [List.length_drop]; exact Nat.le_refl _)]; rfl
theorem tk (a b : UInt8) (t : List UInt8) (n : Nat) : ((a :: b :: t).drop 2).take (n + 2 - 2) = t.take n := rfl
theorem or_byte (a b : UInt8) : bitsI .or .i64 ((256 * a.toNat : Nat) : Int) (b.toNat : Int) = ((256 * a.toNat + b.toNat : Nat) : Int) := by
  have ha := a.toNat_lt
  have hb := b.toNat_lt
  have h1 : 256 * a.toNat + b.toNat = 256 * a.toNat ||| b.toNat := by
    have := Nat.shiftLeft_add_eq_or_of_lt (i := 8) hb a.toNat
    rw [Nat.shiftLeft_eq, Nat.mul_comm] at this
    exact this
  have e : ∀ n : Nat, n < 9223372036854775808 → (BitVec.ofInt 64 (n : Int)).toNat = n := fun n hn => by
    rw [BitVec.ofInt_natCast, BitVec.toNat_ofNat]; exact Nat.mod_eq_of_lt (by omega)
  show IntKind.i64.wrap ((BitVec.ofInt 64 ((256 * a.toNat : Nat) : Int) ||| BitVec.ofInt 64 (b.toNat : Int)).toNat : Int) = _
  rw [BitVec.toNat_or, e _ (by omega), e _ (by omega), ← h1]
  exact wrap64_eq (by omega)
theorem shl8 (a : UInt8) : IntKind.i64.wrap ((a.toNat : Int) * 2 ^ (min (8 : Int).toNat IntKind.i64.bits)) = ((256 * a.toNat : Nat) : Int) := by
  have ha := a.toNat_lt
  have : (2 : Int) ^ (min (8 : Int).toNat IntKind.i64.bits) = 256 := by rfl
  rw [this, wrap64_eq (by omega)]; omega

/-- With messages that came before. -/
def Pr.pre (ms : List (List UInt8)) (p : Pr) : Pr := ⟨p.rest, p.credit, p.failed, ms ++ p.msgs⟩
theorem Pr.pre_nil (p : Pr) : p.pre [] = p := rfl
theorem proc_short {f : Nat} {r : List UInt8} {c : Int} (h : r.length < 2) : proc f r c = ⟨r, c, false, []⟩ := by
  match f, r, h with
  | 0, _, _ => rfl
  | _ + 1, [], _ => rfl
  | _ + 1, [_], _ => rfl
section
variable {f : Nat} {a b : UInt8} {t : List UInt8} {c : Int}
theorem proc_big (hf : 1 ≤ f) (h : 4096 < 256 * a.toNat + b.toNat) : proc f (a :: b :: t) c = ⟨[], c, true, []⟩ := by
  obtain ⟨f, rfl⟩ : ∃ g, f = g + 1 := ⟨f - 1, by omega⟩
  simp only [proc]; rw [if_pos h]
theorem proc_zero (h : 256 * a.toNat + b.toNat = 0) : proc (f + 1) (a :: b :: t) c = proc f t c := by
  simp only [proc]; rw [if_neg (by omega), if_pos h]
theorem proc_wait (hf : 1 ≤ f) (h1 : ¬ 4096 < 256 * a.toNat + b.toNat) (h2 : ¬ 256 * a.toNat + b.toNat = 0) (h3 : t.length < 256 * a.toNat + b.toNat ∨ c = 0) : proc f (a :: b :: t) c = ⟨a :: b :: t, c, false, []⟩ := by
  obtain ⟨f, rfl⟩ : ∃ g, f = g + 1 := ⟨f - 1, by omega⟩
  simp only [proc]; rw [if_neg h1, if_neg h2, if_pos h3]
theorem proc_take (ms : List (List UInt8)) (h1 : ¬ 4096 < 256 * a.toNat + b.toNat) (h2 : ¬ 256 * a.toNat + b.toNat = 0) (h3 : ¬ (t.length < 256 * a.toNat + b.toNat ∨ c = 0)) :
    (proc (f + 1) (a :: b :: t) c).pre ms = (proc f (t.drop (256 * a.toNat + b.toNat)) (c - 1)).pre (ms ++ [t.take (256 * a.toNat + b.toNat)]) := by
  simp only [proc]; rw [if_neg h1, if_neg h2, if_neg h3]; simp [Pr.pre]
end
theorem proc_rest_le : ∀ (f : Nat) (r : List UInt8) (c : Int), (proc f r c).rest.length ≤ r.length
  | 0, r, c => Nat.le_refl _
  | f + 1, [], c => Nat.le_refl _
  | f + 1, [_], c => Nat.le_refl _
  | f + 1, a :: b :: t, c => by
    simp only [proc]
    split
    · simp
    · split
      · have := proc_rest_le f t c; simp only [List.length_cons]; omega
      · split
        · simp
        · have := proc_rest_le f (t.drop (256 * a.toNat + b.toNat)) (c - 1)
          rw [List.length_drop] at this
          simp only [List.length_cons]; omega
def nextMs (ms : List (List UInt8)) (m : List UInt8) : List (List UInt8) := if 0 < m.length then ms ++ [m] else ms
theorem nextMs_pos (ms : List (List UInt8)) {m : List UInt8} (h : 0 < m.length) : nextMs ms m = ms ++ [m] := if_pos h
theorem nextMs_neg (ms : List (List UInt8)) {m : List UInt8} (h : ¬ 0 < m.length) : nextMs ms m = ms := if_neg h
/-- Where the reference's loop stands. -/
def Run (R : List UInt8) (C : Int) (more : Bool) (d : Dec) (ms : List (List UInt8)) (f : Nat) : Prop :=
  0 ≤ d.credit ∧ d.credit ≤ 1073741824 ∧ ms.length + d.rest.length ≤ R.length ∧ (more = true → d.failed = false ∧ d.rest.length ≤ f ∧ proc R.length R C = (proc f d.rest d.credit).pre ms) ∧ (more = false → proc R.length R C = ⟨d.rest, d.credit, d.failed, ms⟩)
theorem Run.step {R : List UInt8} {C : Int} {d : Dec} {ms : List (List UInt8)} {f : Nat} (h : Run R C true d ms f) :
    ∃ f', Run R C (stepF d).2.2 (stepF d).1 (nextMs ms (stepF d).2.1) f' ∧ ((stepF d).2.2 = true → (stepF d).1.rest.length < d.rest.length) := by
  obtain ⟨h1, h2, h3, h4, _⟩ := h
  obtain ⟨h4, h5, h6⟩ := h4 rfl
  obtain ⟨r, c, fl⟩ := d
  dsimp only at h1 h2 h3 h4 h5 h6
  subst h4
  by_cases hl : r.length < 2
  · rw [stepF_short (by exact hl)]
    refine ⟨f, ⟨h1, h2, h3, by simp, fun _ => ?_⟩, by simp⟩
    rw [h6, proc_short hl]; simp [Pr.pre, nextMs]
  obtain ⟨a, b, t, rfl⟩ := two_le (by omega : 2 ≤ r.length)
  simp only [List.length_cons] at h3 h5
  obtain ⟨f, rfl⟩ : ∃ g, f = g + 1 := ⟨f - 1, by omega⟩
  by_cases hb : 4096 < 256 * a.toNat + b.toNat
  · rw [stepF_big hb]
    refine ⟨f, ⟨h1, h2, by simp [nextMs]; omega, by simp, fun _ => ?_⟩, by simp⟩
    rw [h6, proc_big (by omega) hb]; simp [Pr.pre, nextMs]
  by_cases hz : 256 * a.toNat + b.toNat = 0
  · rw [stepF_zero hz]
    refine ⟨f, ⟨h1, h2, by simp [nextMs]; omega, fun _ => ⟨rfl, by simp; omega, ?_⟩, by simp⟩, by simp; omega⟩
    rw [h6, proc_zero hz]; simp [nextMs]
  by_cases hw : t.length < 256 * a.toNat + b.toNat ∨ c = 0
  · rw [stepF_wait hb hz hw]
    refine ⟨f, ⟨h1, h2, by simp [nextMs]; omega, by simp, fun _ => ?_⟩, by simp⟩
    rw [h6, proc_wait (by omega) hb hz hw]; simp [Pr.pre, nextMs]
  · rw [stepF_take hb hz hw]
    have hn : 0 < (t.take (256 * a.toNat + b.toNat)).length := by rw [List.length_take]; omega
    refine ⟨f, ⟨by dsimp only; omega, by dsimp only; omega, by simp only [nextMs, if_pos hn, List.length_append, List.length_drop, List.length_cons, List.length_nil]; omega, fun _ => ⟨rfl, by simp only [List.length_drop]; omega, ?_⟩, by simp⟩, by simp only [List.length_drop, List.length_cons]; omega⟩
    rw [h6, proc_take ms hb hz hw, nextMs, if_pos hn]
theorem Run.start {d : Dec} {b : List UInt8} (h : d.rest.length ≤ 4098 ∧ 0 ≤ d.credit ∧ d.credit ≤ 1073741824) (hf : d.failed = false) :
    Run (d.rest ++ b) d.credit true ⟨d.rest ++ b, d.credit, d.failed⟩ [] (d.rest ++ b).length :=
  ⟨h.2.1, h.2.2, by simp, fun _ => ⟨hf, Nat.le_refl _, (Pr.pre_nil _).symm⟩, by simp⟩
theorem proc_msgs_le : ∀ (f : Nat) (r : List UInt8) (c : Int), (proc f r c).msgs.length ≤ r.length
  | 0, r, c => Nat.zero_le _
  | f + 1, [], c => Nat.zero_le _
  | f + 1, [_], c => Nat.zero_le _
  | f + 1, a :: b :: t, c => by
    simp only [proc]
    split
    · simp
    · split
      · have := proc_msgs_le f t c; simp only [List.length_cons]; omega
      · split
        · simp
        · have := proc_msgs_le f (t.drop (256 * a.toNat + b.toNat)) (c - 1)
          rw [List.length_drop] at this
          simp only [List.length_cons]; omega
theorem feedF_msgs_le (d : Dec) (b : List UInt8) : (feedF d b).2.1.length ≤ 4098 + b.length := by
  cases hv : validB d with
  | false => rw [feedF_bad hv]; simp
  | true =>
    cases hf : d.failed with
    | true => rw [feedF_failed hv hf]; simp
    | false =>
      have h1 := proc_msgs_le (d.rest ++ b).length (d.rest ++ b) d.credit
      have h2 := (validB_iff.1 hv).1
      rw [List.length_append] at h1
      cases hp : (prF d b).failed with
      | true => rw [feedF_form hv hf hp]; simp only [prF, List.length_append] at *; omega
      | false =>
        by_cases hq : 4098 < (prF d b).rest.length
        · rw [feedF_full hv hf hp hq]; simp
        · rw [feedF_ok hv hf hp hq]; simp only [prF, List.length_append] at *; omega
/-- Pieces fed to a decoder until an error occurs. -/
def runF (d : Dec) : List (List UInt8) → Dec × List (List UInt8) × Int
  | [] => (d, [], 0)
  | b :: t => if (feedF d b).2.2 = 0 then ((runF (feedF d b).1 t).1, (feedF d b).2.1 ++ (runF (feedF d b).1 t).2.1, (runF (feedF d b).1 t).2.2) else feedF d b
def runPre (ms : List (List UInt8)) (r : Dec × List (List UInt8) × Int) : Dec × List (List UInt8) × Int := (r.1, ms ++ r.2.1, r.2.2)
theorem run_err {d : Dec} {l : List (List UInt8)} {k : Nat} (hk : k < l.length) (h : (feedF d l[k]).2.2 ≠ 0) : runF d (l.drop k) = feedF d l[k] := by
  rw [List.drop_eq_getElem_cons hk, runF, if_neg h]
theorem run_go {d : Dec} {l : List (List UInt8)} {ms : List (List UInt8)} {k : Nat} (hk : k < l.length) (h : (feedF d l[k]).2.2 = 0) :
    runPre ms (runF d (l.drop k)) = runPre (ms ++ (feedF d l[k]).2.1) (runF (feedF d l[k]).1 (l.drop (k + 1))) := by
  rw [List.drop_eq_getElem_cons hk, runF, if_pos h]; simp [runPre]
theorem run_end {d : Dec} {l : List (List UInt8)} {k : Nat} (hk : l.length ≤ k) : runF d (l.drop k) = (d, [], 0) := by
  rw [List.drop_eq_nil_of_le hk]; rfl
def clampN (n : Nat) (x : Int) : Nat := (min (max x 0) (n : Int)).toNat
theorem clampN_cast (n : Nat) (x : Int) : min (max x 0) (n : Int) = ((clampN n x : Nat) : Int) := by unfold clampN; omega
theorem clampN_le (n : Nat) (x : Int) : clampN n x ≤ n := by unfold clampN; omega
/-- A list of numbers below i, sorted by counting. -/
def cs (i : Nat) (l : List Nat) : List Nat := (List.range i).flatMap fun j => List.replicate (l.count j) j
theorem cs_succ (i : Nat) (l : List Nat) : cs (i + 1) l = cs i l ++ List.replicate (l.count i) i := by simp [cs, List.range_succ]
theorem cs_lt {i : Nat} {l : List Nat} {x : Nat} (h : x ∈ cs i l) : x < i := by
  simp only [cs, List.mem_flatMap, List.mem_range, List.mem_replicate] at h
  obtain ⟨j, hj, _, rfl⟩ := h
  exact hj
theorem cs_pw (l : List Nat) : ∀ i, (cs i l).Pairwise (· ≤ ·)
  | 0 => List.Pairwise.nil
  | i + 1 => by
    rw [cs_succ, List.pairwise_append]
    refine ⟨cs_pw l i, ?_, fun a ha b hb => ?_⟩
    · exact List.pairwise_replicate.2 (.inr (Nat.le_refl _))
    · have := cs_lt ha
      obtain ⟨_, rfl⟩ := List.mem_replicate.1 hb
      omega
theorem cs_count (l : List Nat) (a : Nat) : ∀ i, (cs i l).count a = if a < i then l.count a else 0
  | 0 => by simp [cs]
  | i + 1 => by
    rw [cs_succ, List.count_append, cs_count l a i, List.count_replicate]
    by_cases h : a = i
    · subst h; simp
    · have h2 : ¬ i = a := fun e => h e.symm
      by_cases h3 : a < i
      · simp [h2, h3, show a < i + 1 by omega]
      · simp [h2, h3, show ¬ a < i + 1 by omega]
theorem cs_perm {i : Nat} {l : List Nat} (h : ∀ x ∈ l, x < i) : (cs i l).Perm l := by
  refine List.perm_iff_count.2 fun a => ?_
  rw [cs_count]
  split
  · rfl
  · rename_i hn
    exact (List.count_eq_zero.2 fun ha => hn (h a ha)).symm
theorem cs_len (l : List Nat) : ∀ i, (cs i l).length ≤ i * l.length
  | 0 => by simp [cs]
  | i + 1 => by
    rw [cs_succ, List.length_append, List.length_replicate, Nat.succ_mul]
    have := cs_len l i
    have := List.count_le_length (a := i) (l := l)
    omega
/-- Cut places in order, up to n. -/
def Up (n : Nat) : Nat → List Nat → Prop
  | a, [] => a ≤ n
  | a, c :: t => a ≤ c ∧ Up n c t
theorem Up.of {n : Nat} : ∀ {l : List Nat} {a : Nat}, l.Pairwise (· ≤ ·) → (∀ x ∈ l, x ≤ n) → (∀ x ∈ l, a ≤ x) → a ≤ n → Up n a l
  | [], _, _, _, _, h => h
  | c :: t, a, hp, h1, h2, _ => by
    have hp' := List.pairwise_cons.1 hp
    exact ⟨h2 c (by simp), Up.of hp'.2 (fun x hx => h1 x (by simp [hx])) hp'.1 (h1 c (by simp))⟩
theorem Up.le {n : Nat} : ∀ {l : List Nat} {a : Nat}, Up n a l → a ≤ n
  | [], _, h => h
  | _ :: _, _, h => Nat.le_trans h.1 h.2.le
def piecesF (b : List UInt8) : Nat → List Nat → List (List UInt8)
  | a, [] => [b.drop a]
  | a, c :: t => (b.drop a).take (c - a) :: piecesF b c t
def cutsN (n : Nat) (l : List Int) : List Nat := cs (n + 1) (l.map (clampN n))
theorem cutsN_up (n : Nat) (l : List Int) : Up n 0 (cutsN n l) :=
  Up.of (cs_pw _ _) (fun x hx => by have := cs_lt hx; omega) (fun _ _ => Nat.zero_le _) (Nat.zero_le _)
theorem cutsN_perm (n : Nat) (l : List Int) : (cutsN n l).Perm (l.map (clampN n)) := cs_perm fun x hx => by
  obtain ⟨y, _, rfl⟩ := List.mem_map.1 hx
  have := clampN_le n y
  omega
theorem cutsN_len (n : Nat) (l : List Int) : (cutsN n l).length = l.length := by rw [(cutsN_perm n l).length_eq, List.length_map]
def splitF (b : List UInt8) (l : List Int) : List (List UInt8) := piecesF b 0 (cutsN b.length l)
theorem sort_cuts (n : Nat) (l : List Int) : ((l.map fun x => ((clampN n x : Nat) : Int)).mergeSort fun x y => decide (x ≤ y)) = (cutsN n l).map fun x : Nat => (x : Int) := by
  have hm : l.map (fun x => ((clampN n x : Nat) : Int)) = (l.map (clampN n)).map fun x : Nat => (x : Int) := by simp
  refine List.Perm.eq_of_pairwise (le := fun x y : Int => x ≤ y) (fun a b _ _ h1 h2 => Int.le_antisymm h1 h2) ?_ ?_ ?_
  · have := List.pairwise_mergeSort (le := fun x y : Int => decide (x ≤ y)) (fun a b c h1 h2 => by simp at *; omega) (fun a b => by simp; omega) (l.map fun x => ((clampN n x : Nat) : Int))
    simpa using this
  · exact List.pairwise_map.2 ((cs_pw _ _).imp fun h => by exact_mod_cast h)
  · rw [hm]
    exact (List.mergeSort_perm _ _).trans ((cutsN_perm n l).map _).symm
theorem piecesF_len (b : List UInt8) : ∀ (l : List Nat) (a : Nat), (piecesF b a l).length = l.length + 1
  | [], _ => rfl
  | _ :: t, _ => by simp [piecesF, piecesF_len b t]
theorem splitF_len (b : List UInt8) (l : List Int) : (splitF b l).length = l.length + 1 := by rw [splitF, piecesF_len, cutsN_len]
theorem piecesF_flat (b : List UInt8) : ∀ (l : List Nat) (a : Nat), Up b.length a l → (piecesF b a l).flatten = b.drop a
  | [], a, _ => by simp [piecesF]
  | c :: t, a, ⟨h1, h2⟩ => by
    rw [piecesF, List.flatten_cons, piecesF_flat b t c h2]
    have : b.drop c = (b.drop a).drop (c - a) := by rw [List.drop_drop, Nat.add_sub_cancel' h1]
    rw [this, List.take_append_drop]
theorem splitF_flat (b : List UInt8) (l : List Int) : (splitF b l).flatten = b := by
  rw [splitF, piecesF_flat b _ 0 (cutsN_up _ _)]; rfl
theorem piecesF_mem_le (b : List UInt8) : ∀ (l : List Nat) (a : Nat), ∀ x ∈ piecesF b a l, x.length ≤ b.length
  | [], a, x, h => by
    obtain rfl : x = b.drop a := by simpa [piecesF] using h
    simp
  | c :: t, a, x, h => by
    rcases List.mem_cons.1 h with rfl | h
    · rw [List.length_take, List.length_drop]; omega
    · exact piecesF_mem_le b t c x h
theorem piece_at {b : List UInt8} {pl : List (List UInt8)} {k a c : Nat} {t : List Nat} (h : pl.drop k = piecesF b a (c :: t)) : pl[k]? = some ((b.drop a).take (c - a)) ∧ pl.drop (k + 1) = piecesF b c t := by
  refine ⟨?_, ?_⟩
  · rw [← List.head?_drop, h]; rfl
  · rw [← List.tail_drop, h]; rfl
theorem piece_last {b : List UInt8} {pl : List (List UInt8)} {k a : Nat} (h : pl.drop k = piecesF b a []) : pl[k]? = some (b.drop a) := by
  rw [← List.head?_drop, h]; rfl
theorem count_take_succ (l : List Nat) (i k : Nat) (h : k < l.length) : (l.take (k + 1)).count i = (l.take k).count i + if l[k] = i then 1 else 0 := by
  rw [List.take_succ_eq_append_getElem h, List.count_append, List.count_singleton]
  by_cases e : l[k] = i <;> simp [e]
theorem cu_len {L : List Nat} {i k n : Nat} (hi : i ≤ n) : (cs i L ++ List.replicate ((L.take k).count i) i).length ≤ (n + 1) * L.length := by
  have h1 := cs_len L i
  have h2 : (L.take k).count i ≤ (L.take k).length := List.count_le_length
  have h3 := Nat.mul_le_mul_right L.length hi
  have h4 : (L.take k).length ≤ L.length := by rw [List.length_take]; omega
  rw [List.length_append, List.length_replicate, Nat.succ_mul]
  omega
theorem Up.at {n a k : Nat} {l : List Nat} (h : Up n a (l.drop k)) (hk : k < l.length) : a ≤ l[k] ∧ l[k] ≤ n ∧ Up n l[k] (l.drop (k + 1)) := by
  rw [List.drop_eq_getElem_cons hk] at h
  exact ⟨h.1, h.2.le, h.2⟩
theorem split_at {b : List UInt8} {pl : List (List UInt8)} {l : List Nat} {k a : Nat} (h : pl.drop k = piecesF b a (l.drop k)) (hk : k < l.length) : pl[k]? = some ((b.drop a).take (l[k] - a)) ∧ pl.drop (k + 1) = piecesF b l[k] (l.drop (k + 1)) := by
  rw [List.drop_eq_getElem_cons hk] at h
  exact piece_at h
theorem split_last {b : List UInt8} {pl : List (List UInt8)} {l : List Nat} {k a : Nat} (h : pl.drop k = piecesF b a (l.drop k)) (hk : l.length ≤ k) : pl.take k ++ [b.drop a] = pl := by
  rw [List.drop_eq_nil_of_le hk] at h
  conv => rhs; rw [← List.take_append_drop k pl, h]
  rfl
theorem wireF_len (L : List (List UInt8)) (T : List UInt8) : (wireF L T).length ≤ 564 := by
  have h1 := wire_le (fewF_le L) (fewF L).length
  have h2 := fewF_len L
  rw [List.take_length] at h1
  have h3 : (T.take 60).length ≤ 60 := by rw [List.length_take]; omega
  rw [wireF, List.length_append]
  omega
end Go.Proofs.Ytacchhkefnokdaa
