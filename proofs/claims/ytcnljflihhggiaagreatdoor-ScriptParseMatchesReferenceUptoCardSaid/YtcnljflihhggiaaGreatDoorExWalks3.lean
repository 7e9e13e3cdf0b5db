import Derived.Test.YtcnljflihhggiaaGreatDoorExWalks2
import Derived.Test.YtcnljflihhggiaaGreatDoorProg
import Derived.Test.YtcnljflihhggiaaGreatDoorPlain
import Derived.Test.YtcnljflihhggiaaGreatDoorExThin
import Derived.Test.YtcnljflihhggiaaGreatDoorExOrders
import Derived.Test.YtcnljflihhggiaaGreatDoorShelf
namespace Go.Proofs.YtcnljflihhggiaaGreatDoor
open Go Go.Ex Go.RowKit


theorem kw_at {k : Nat} (h1 : 1 ≤ k) (h : k ≤ 9) : ([.string ⟨#[115, 101, 110, 100]⟩, .string ⟨#[117, 112, 103, 114, 97, 100, 101]⟩, .string ⟨#[98, 97, 99, 107]⟩, .string ⟨#[115, 116, 111, 112]⟩, .string ⟨#[115, 116, 97, 114, 116]⟩, .string ⟨#[108, 105, 101]⟩, .string ⟨#[115, 97, 109, 112, 108, 101]⟩, .string ⟨#[99, 114, 97, 115, 104]⟩, .string ⟨#[115, 121, 110, 99]⟩] : List Value)[k - 1]? = some (.string ⟨(kwF k).toArray⟩) := by
  match k, h1, h with
  | 1, _, _ => rfl
  | 2, _, _ => rfl
  | 3, _, _ => rfl
  | 4, _, _ => rfl
  | 5, _, _ => rfl
  | 6, _, _ => rfl
  | 7, _, _ => rfl
  | 8, _, _ => rfl
  | 9, _, _ => rfl
theorem kw_none {k : Int} (h : k < 1 ∨ k > 9) : kwF k.toNat = [] := by
  rcases h with h | h
  · rw [show k.toNat = 0 by omega]; rfl
  · obtain ⟨n, hn⟩ : ∃ n, k.toNat = n + 10 := ⟨k.toNat - 10, by omega⟩
    rw [hn]; rfl
theorem kw_iff {k : Int} : kwF k.toNat = [] ↔ k < 1 ∨ k > 9 := by
  constructor
  · intro h
    rcases Int.lt_or_le k 1 with h1 | h1
    · exact .inl h1
    · rcases Int.lt_or_le 9 k with h2 | h2
      · exact .inr h2
      · exact absurd h (kw_ne ⟨k.toNat, by omega⟩ (by show 1 ≤ k.toNat; omega))
  · exact kw_none
theorem useC_om {k : Int} : useC k.toNat = true ↔ k = 2 ∨ k = 5 ∨ k = 6 ∨ k = 8 := by
  unfold useC; simp only [Bool.or_eq_true, decide_eq_true_eq]; omega
theorem useC_no {k : Int} (h : useC k.toNat = false) : ¬ (k = 2 ∨ k = 5 ∨ k = 6 ∨ k = 8) := fun h2 => by rw [useC_om.2 h2] at h; cases h
theorem useA_om {k : Int} : useA k.toNat = true ↔ 1 ≤ k ∧ k ≤ 8 := by
  unfold useA; simp only [Bool.and_eq_true, decide_eq_true_eq]; omega
theorem useB_om {k : Int} : useB k.toNat = true ↔ k = 1 := by
  unfold useB; simp only [decide_eq_true_eq]; omega
theorem fit_om (e : Ev) : fitE e = true ↔ (1 ≤ e.kind ∧ e.kind ≤ 9) ∧ ((1 ≤ e.kind ∧ e.kind ≤ 8) ∨ e.a = 0) ∧ (e.kind = 1 ∨ e.b.length = 0) ∧ ((e.kind = 2 ∨ e.kind = 5 ∨ e.kind = 6 ∨ e.kind = 8) ∨ e.c = 0) := by
  rw [fit_iff, useA_om, useB_om, useC_om]
  unfold kindOk; simp only [Bool.and_eq_true, decide_eq_true_eq]
/-- A field is set that the event's kind does not use, or there is no such kind. -/
def unE (e : Ev) : Bool := !fitE e
theorem un_t {e : Ev} (h : ¬ ((1 ≤ e.kind ∧ e.kind ≤ 9) ∧ ((1 ≤ e.kind ∧ e.kind ≤ 8) ∨ e.a = 0) ∧ (e.kind = 1 ∨ e.b.length = 0) ∧ ((e.kind = 2 ∨ e.kind = 5 ∨ e.kind = 6 ∨ e.kind = 8) ∨ e.c = 0))) : unE e = true := by
  unfold unE; rw [Bool.eq_false_iff.2 fun h2 => h ((fit_om e).1 h2)]; rfl
theorem un_f {e : Ev} (h : (1 ≤ e.kind ∧ e.kind ≤ 9) ∧ ((1 ≤ e.kind ∧ e.kind ≤ 8) ∨ e.a = 0) ∧ (e.kind = 1 ∨ e.b.length = 0) ∧ ((e.kind = 2 ∨ e.kind = 5 ∨ e.kind = 6 ∨ e.kind = 8) ∨ e.c = 0)) : unE e = false := by
  unfold unE; rw [(fit_om e).2 h]; rfl
theorem dec_len7 {n : Nat} (h : n ≤ 9999999) : (Lib.decDigits n).length ≤ 7 := by
  have k1 : ∀ n, n < 10 → (Lib.decDigits n).length = 1 := fun n h => by rw [dec_small h]; rfl
  have st : ∀ n b, ¬ n < 10 → (Lib.decDigits (n / 10)).length ≤ b → (Lib.decDigits n).length ≤ b + 1 := fun n b h h2 => by rw [dec_big h, List.length_append, List.length_singleton]; omega
  have go : ∀ b n, n < 10 ^ (b + 1) → (Lib.decDigits n).length ≤ b + 1 := by
    intro b
    induction b with
    | zero => intro n h; rw [k1 n (by simpa using h)]; omega
    | succ b ih =>
      intro n h
      by_cases h0 : n < 10
      · rw [k1 n h0]; omega
      · exact st n _ h0 (ih _ (by have : 10 ^ (b + 1 + 1) = 10 ^ (b + 1) * 10 := Nat.pow_succ _ _; omega))
  exact go 6 n (by omega)
theorem kw_len (k : Nat) : (kwF k).length ≤ 7 := by unfold kwF; split <;> decide
theorem hexT_len (b : List UInt8) : (hexT b).length ≤ 2 * b.length + 1 := by
  unfold hexT; split
  · simp
  · rw [hexP_len]; omega
/-- Bits of a number. -/
def bitsF (a m : Int) : Int := bitsI .and .i64 a m
theorem bits_rng (a : Int) {z : Int} (h0 : 0 ≤ z) (hm : z ≤ 2147483647) : 0 ≤ bitsF a z ∧ bitsF a z ≤ z := by
  obtain ⟨m, rfl⟩ := Int.eq_ofNat_of_zero_le h0
  unfold bitsF bitsI
  show 0 ≤ IntKind.i64.wrap ((BitVec.ofInt 64 a &&& BitVec.ofInt 64 (m : Int)).toNat : Int) ∧ IntKind.i64.wrap ((BitVec.ofInt 64 a &&& BitVec.ofInt 64 (m : Int)).toNat : Int) ≤ m
  have h1 : (BitVec.ofInt 64 a &&& BitVec.ofInt 64 (m : Int)).toNat ≤ m := by
    rw [BitVec.toNat_and]
    refine Nat.le_trans Nat.and_le_right ?_
    simp only [BitVec.toNat_ofInt]; omega
  rw [wrap64_eq (by omega)]
  omega


set_option maxHeartbeats 400000 in
set_option maxRecDepth 10000 in
theorem keyw_ok {G : Ghost} {k : Int} :
  FnOk Tryz.prog 40 [.int .i64 k] G [] fun r _ H' => H' = [] ∧ r = .string ⟨(kwF k.toNat).toArray⟩ := by
 refine FnOk.of_T [(0, _)] Tryz.func40 rfl Tryz.ntmps40 (by simp) rfl fun w0 hs => ?_
 refine T_seq (T_region rfl ?_)
 refine O_a rfl ?_
 refine O_nil (T_kp [0] rfl ?_)
 refine T_seq (T_seq (T_region rfl ?_))
 refine O_m rfl ?_
 refine O_y hs (Y_cmpS rfl rfl rfl (fun h4 => ?_) (fun h4 => ?_))
 ·
  dsimp only [cmpP] at h4
  refine O_m rfl ?_
  refine O_no 5 rfl rfl ?_
  refine O_no 5 rfl rfl ?_
  refine O_y hs (Y_pickT rfl rfl ?_)
  refine O_nil (T_kp [0, 8] rfl ?_)
  refine T_condT rfl (T_seq (T_region rfl ?_))
  refine O_a rfl ?_
  refine O_nil (T_kp [2] rfl ?_)
  refine T_ret ?_
  refine Rt_fin (vs := [_]) Tryz.results40 rfl ⟨rfl, trivial⟩ ?_
  try dsimp only [tup]
  exact ⟨_, [], hs.done, rfl, by rw [kw_none (by omega)]⟩
 ·
  dsimp only [cmpP] at h4
  refine O_m rfl ?_
  refine O_yy 5 hs rfl rfl (Y_move rfl ?_)
  refine O_yy 5 hs rfl rfl (Y_cmpS rfl rfl rfl (fun h7 => ?_) (fun h7 => ?_))
  ·
   dsimp only [cmpP] at h7
   refine O_y hs (Y_pickF rfl rfl ?_)
   refine O_nil (T_kp [0, 8] rfl ?_)
   refine T_condT rfl (T_seq (T_region rfl ?_))
   refine O_a rfl ?_
   refine O_nil (T_kp [2] rfl ?_)
   refine T_ret ?_
   refine Rt_fin (vs := [_]) Tryz.results40 rfl ⟨rfl, trivial⟩ ?_
   try dsimp only [tup]
   exact ⟨_, [], hs.done, rfl, by rw [kw_none (by omega)]⟩
  ·
   dsimp only [cmpP] at h7
   refine O_y hs (Y_pickF rfl rfl ?_)
   refine O_nil (T_kp [0, 8] rfl ?_)
   refine T_condF rfl (T_skip ?_)
   refine T_seq (T_region rfl ?_)
   refine O_s (S_lit hs Tryz.underlying79 Tryz.sizeOf9 Tryz.zeroValue9 rfl rfl (by decide) (by decide) rfl (cs := [_, _, _, _, _, _, _, _, _]) rfl rfl fun v1 _ hs _ => ?_)
   obtain ⟨_, hG9, hl9, hs⟩ := hs.fixRow noM
   refine O_m rfl ?_
   refine O_y hs (Y_sub (c := (k - 1)) rfl rfl (by omega) (by omega) ?_)
   refine O_y hs (Y_idx1 (k.toNat - 1) Tryz.underlying79 Tryz.sizeOf9 hl9 rfl rfl (by omega) (kw_at (by omega) (by omega)) fun p12 hp12 => ?_)
   refine O_y hs (Y_ldG Tryz.isAgg9 rfl (hp12) ?_)
   refine O_a rfl ?_
   refine O_nil (T_kp [2] rfl ?_)
   refine T_ret ?_
   refine Rt_fin (vs := [_]) Tryz.results40 rfl ⟨rfl, trivial⟩ ?_
   try dsimp only [tup]
   exact ⟨_, [], hs.done, rfl, rfl⟩

set_option maxHeartbeats 400000 in
set_option maxRecDepth 10000 in
theorem hasc_ok {G : Ghost} {k : Int} :
  FnOk Tryz.prog 24 [.int .i64 k] G [] fun r _ H' => H' = [] ∧ r = .bool (useC k.toNat) := by
 refine FnOk.of_T [(0, _)] Tryz.func24 rfl Tryz.ntmps24 (by simp) rfl fun w0 hs => ?_
 refine T_seq (T_region rfl ?_)
 refine O_a rfl ?_
 refine O_nil (T_kp [0] rfl ?_)
 refine T_seq (T_region rfl ?_)
 refine O_m rfl ?_
 refine O_y hs (Y_cmpS rfl rfl rfl (fun h4 => ?_) (fun h4 => ?_))
 ·
  dsimp only [cmpP] at h4
  refine O_m rfl ?_
  refine O_no 5 rfl rfl ?_
  refine O_no 5 rfl rfl ?_
  refine O_y hs (Y_pickT rfl rfl ?_)
  refine O_m rfl ?_
  refine O_no 9 rfl rfl ?_
  refine O_no 9 rfl rfl ?_
  refine O_y hs (Y_pickT rfl rfl ?_)
  refine O_m rfl ?_
  refine O_no 13 rfl rfl ?_
  refine O_no 13 rfl rfl ?_
  refine O_y hs (Y_pickT rfl rfl ?_)
  refine O_a rfl ?_
  refine O_nil (T_kp [2] rfl ?_)
  refine T_ret ?_
  refine Rt_fin (vs := [_]) Tryz.results24 rfl ⟨rfl, trivial⟩ ?_
  try dsimp only [tup]
  exact ⟨_, [], hs.done, rfl, by rw [useC_om.2 (by omega)]⟩
 ·
  dsimp only [cmpP] at h4
  refine O_m rfl ?_
  refine O_yy 5 hs rfl rfl (Y_move rfl ?_)
  refine O_yy 5 hs rfl rfl (Y_cmpS rfl rfl rfl (fun h7 => ?_) (fun h7 => ?_))
  ·
   dsimp only [cmpP] at h7
   refine O_y hs (Y_pickF rfl rfl ?_)
   refine O_m rfl ?_
   refine O_no 9 rfl rfl ?_
   refine O_no 9 rfl rfl ?_
   refine O_y hs (Y_pickT rfl rfl ?_)
   refine O_m rfl ?_
   refine O_no 13 rfl rfl ?_
   refine O_no 13 rfl rfl ?_
   refine O_y hs (Y_pickT rfl rfl ?_)
   refine O_a rfl ?_
   refine O_nil (T_kp [2] rfl ?_)
   refine T_ret ?_
   refine Rt_fin (vs := [_]) Tryz.results24 rfl ⟨rfl, trivial⟩ ?_
   try dsimp only [tup]
   exact ⟨_, [], hs.done, rfl, by rw [useC_om.2 (by omega)]⟩
  ·
   dsimp only [cmpP] at h7
   refine O_y hs (Y_pickF rfl rfl ?_)
   refine O_m rfl ?_
   refine O_yy 9 hs rfl rfl (Y_move rfl ?_)
   refine O_yy 9 hs rfl rfl (Y_cmpS rfl rfl rfl (fun h11 => ?_) (fun h11 => ?_))
   ·
    dsimp only [cmpP] at h11
    refine O_y hs (Y_pickF rfl rfl ?_)
    refine O_m rfl ?_
    refine O_no 13 rfl rfl ?_
    refine O_no 13 rfl rfl ?_
    refine O_y hs (Y_pickT rfl rfl ?_)
    refine O_a rfl ?_
    refine O_nil (T_kp [2] rfl ?_)
    refine T_ret ?_
    refine Rt_fin (vs := [_]) Tryz.results24 rfl ⟨rfl, trivial⟩ ?_
    try dsimp only [tup]
    exact ⟨_, [], hs.done, rfl, by rw [useC_om.2 (by omega)]⟩
   ·
    dsimp only [cmpP] at h11
    refine O_y hs (Y_pickF rfl rfl ?_)
    refine O_m rfl ?_
    refine O_yy 13 hs rfl rfl (Y_move rfl ?_)
    refine O_yy 13 hs rfl rfl (Y_cmpS rfl rfl rfl (fun h15 => ?_) (fun h15 => ?_))
    ·
     dsimp only [cmpP] at h15
     refine O_y hs (Y_pickF rfl rfl ?_)
     refine O_a rfl ?_
     refine O_nil (T_kp [2] rfl ?_)
     refine T_ret ?_
     refine Rt_fin (vs := [_]) Tryz.results24 rfl ⟨rfl, trivial⟩ ?_
     try dsimp only [tup]
     exact ⟨_, [], hs.done, rfl, by rw [useC_om.2 (by omega)]⟩
    ·
     dsimp only [cmpP] at h15
     refine O_y hs (Y_pickF rfl rfl ?_)
     refine O_a rfl ?_
     refine O_nil (T_kp [2] rfl ?_)
     refine T_ret ?_
     refine Rt_fin (vs := [_]) Tryz.results24 rfl ⟨rfl, trivial⟩ ?_
     try dsimp only [tup]
     exact ⟨_, [], hs.done, rfl, by rw [show useC k.toNat = false from Bool.eq_false_iff.2 fun h => by have := useC_om.1 h; omega]⟩

set_option maxHeartbeats 400000 in
set_option maxRecDepth 10000 in
theorem unus_ok {G : Ghost} {e : Ev} {vb : Value} (hb : Bytes G vb e.b) :
  FnOk Tryz.prog 39 [.agg #[.int .i64 e.kind, .int .i64 e.a, .int .i64 e.c, vb]] G [] fun r _ H' => H' = [] ∧ r = .bool (unE e) := by
 obtain ⟨A, cap, rfl, _⟩ := id hb
 refine FnOk.of_T [(0, _)] Tryz.func39 rfl Tryz.ntmps39 (by simp) rfl fun w0 hs => ?_
 refine T_seq (T_region rfl ?_)
 refine O_s (S_box hs rfl (cs := [_, _, _, _]) rfl fun b1 _ hs => ?_)
 refine O_a rfl ?_
 refine O_nil (T_kp [1] rfl ?_)
 refine T_seq (T_region rfl ?_)
 refine O_y hs (Y_fieldAddr FO36_0 rfl (m := 0) rfl ?_)
 refine O_y hs (Y_ld 0 Tryz.isAgg3 rfl rfl rfl ?_)
 refine O_s (S_call (H1 := []) hs rfl Tryz.func40 rfl (by kernel_rfl) (keyw_ok) fun v1 G' H' _ hR hG5 hs => ?_)
 obtain ⟨rfl, rfl⟩ := hR
 replace hs : St _ _ [_] _ := hs
 refine O_y hs (Y_strEqS (b := []) rfl rfl (fun h6 => ?_) (fun h6 => ?_))
 ·
  refine O_m rfl ?_
  refine O_no 7 rfl rfl ?_
  refine O_no 7 rfl rfl ?_
  refine O_no 7 rfl rfl ?_
  refine O_no 7 rfl rfl ?_
  refine O_noU 11 rfl rfl ?_
  refine O_noU 11 rfl rfl ?_
  refine O_noU 11 rfl rfl ?_
  refine O_no 7 rfl rfl ?_
  refine O_y hs (Y_pickT rfl rfl ?_)
  refine O_m rfl ?_
  refine O_no 17 rfl rfl ?_
  refine O_no 17 rfl rfl ?_
  refine O_no 17 rfl rfl ?_
  refine O_no 17 rfl rfl ?_
  refine O_no 17 rfl rfl ?_
  refine O_noU 22 rfl rfl ?_
  refine O_noU 22 rfl rfl ?_
  refine O_noU 22 rfl rfl ?_
  refine O_no 17 rfl rfl ?_
  refine O_y hs (Y_pickT rfl rfl ?_)
  refine O_m rfl ?_
  refine O_no 28 rfl rfl ?_
  refine O_no 28 rfl rfl ?_
  refine O_no 28 rfl rfl ?_
  refine O_no 28 rfl rfl ?_
  refine O_noU 32 rfl rfl ?_
  refine O_noU 32 rfl rfl ?_
  refine O_noU 32 rfl rfl ?_
  refine O_noU 32 rfl rfl ?_
  refine O_no 28 rfl rfl ?_
  refine O_y hs (Y_pickT rfl rfl ?_)
  refine O_a rfl ?_
  refine O_nil (T_kp [2] rfl ?_)
  refine T_ret ?_
  refine Rt_fin (vs := [_]) Tryz.results39 rfl ⟨rfl, trivial⟩ ?_
  try dsimp only [tup]
  have h6' := kw_iff.1 h6
  exact ⟨_, [], hs.done, rfl, by rw [un_t (by omega)]⟩
 ·
  refine O_m rfl ?_
  refine O_yy 7 hs rfl rfl (Y_fieldAddr FO36_0 rfl (m := 0) rfl ?_)
  refine O_yy 7 hs rfl rfl (Y_ld 0 Tryz.isAgg3 rfl rfl rfl ?_)
  refine O_yy 7 hs rfl rfl (Y_cmpS rfl rfl rfl (fun h10 => ?_) (fun h10 => ?_))
  ·
   dsimp only [cmpP] at h10
   refine O_yy 7 hs rfl rfl (Y_move rfl ?_)
   refine O_yy 11 hs rfl rfl (Y_fieldAddr FO36_1 rfl (m := 1) rfl ?_)
   refine O_yy 11 hs rfl rfl (Y_ld 0 Tryz.isAgg3 rfl rfl rfl ?_)
   refine O_yy 11 hs rfl rfl (Y_cmpS rfl rfl rfl (fun h14 => ?_) (fun h14 => ?_))
   ·
    dsimp only [cmpP] at h14
    refine O_yy 7 hs rfl rfl (Y_pickT rfl rfl ?_)
    refine O_y hs (Y_pickF rfl rfl ?_)
    refine O_m rfl ?_
    refine O_no 17 rfl rfl ?_
    refine O_no 17 rfl rfl ?_
    refine O_no 17 rfl rfl ?_
    refine O_no 17 rfl rfl ?_
    refine O_no 17 rfl rfl ?_
    refine O_noU 22 rfl rfl ?_
    refine O_noU 22 rfl rfl ?_
    refine O_noU 22 rfl rfl ?_
    refine O_no 17 rfl rfl ?_
    refine O_y hs (Y_pickT rfl rfl ?_)
    refine O_m rfl ?_
    refine O_no 28 rfl rfl ?_
    refine O_no 28 rfl rfl ?_
    refine O_no 28 rfl rfl ?_
    refine O_no 28 rfl rfl ?_
    refine O_noU 32 rfl rfl ?_
    refine O_noU 32 rfl rfl ?_
    refine O_noU 32 rfl rfl ?_
    refine O_noU 32 rfl rfl ?_
    refine O_no 28 rfl rfl ?_
    refine O_y hs (Y_pickT rfl rfl ?_)
    refine O_a rfl ?_
    refine O_nil (T_kp [2] rfl ?_)
    refine T_ret ?_
    refine Rt_fin (vs := [_]) Tryz.results39 rfl ⟨rfl, trivial⟩ ?_
    try dsimp only [tup]
    have h6' := mt kw_iff.2 h6
    exact ⟨_, [], hs.done, rfl, by rw [un_t (by omega)]⟩
   ·
    dsimp only [cmpP] at h14
    refine O_yy 7 hs rfl rfl (Y_pickT rfl rfl ?_)
    refine O_y hs (Y_pickF rfl rfl ?_)
    refine O_m rfl ?_
    refine O_yy 17 hs rfl rfl (Y_fieldAddr FO36_0 rfl (m := 0) rfl ?_)
    refine O_yy 17 hs rfl rfl (Y_ld 0 Tryz.isAgg3 rfl rfl rfl ?_)
    refine O_yes 17 rfl rfl (S_call (H1 := []) hs rfl Tryz.func24 rfl (by kernel_rfl) (hasc_ok) fun v2 G' H' _ hR hG20 hs => ?_)
    obtain ⟨rfl, rfl⟩ := hR
    replace hs : St _ _ [_] _ := hs
    cases h20 : useC e.kind.toNat
    ·
     have h20' := useC_no h20
     refine O_yy 17 hs rfl rfl (Y_not rfl ?_)
     refine O_yy 17 hs rfl rfl (Y_move rfl ?_)
     refine O_yy 22 hs rfl rfl (Y_fieldAddr FO36_2 rfl (m := 2) rfl ?_)
     refine O_yy 22 hs rfl rfl (Y_ld 0 Tryz.isAgg3 rfl rfl rfl ?_)
     refine O_yy 22 hs rfl rfl (Y_cmpS rfl rfl rfl (fun h25 => ?_) (fun h25 => ?_))
     ·
      dsimp only [cmpP] at h25
      refine O_yy 17 hs rfl rfl (Y_pickT rfl rfl ?_)
      refine O_y hs (Y_pickF rfl rfl ?_)
      refine O_m rfl ?_
      refine O_no 28 rfl rfl ?_
      refine O_no 28 rfl rfl ?_
      refine O_no 28 rfl rfl ?_
      refine O_no 28 rfl rfl ?_
      refine O_noU 32 rfl rfl ?_
      refine O_noU 32 rfl rfl ?_
      refine O_noU 32 rfl rfl ?_
      refine O_noU 32 rfl rfl ?_
      refine O_no 28 rfl rfl ?_
      refine O_y hs (Y_pickT rfl rfl ?_)
      refine O_a rfl ?_
      refine O_nil (T_kp [2] rfl ?_)
      refine T_ret ?_
      refine Rt_fin (vs := [_]) Tryz.results39 rfl ⟨rfl, trivial⟩ ?_
      try dsimp only [tup]
      have h6' := mt kw_iff.2 h6
      exact ⟨_, [], hs.done, rfl, by rw [un_t (by omega)]⟩
     ·
      dsimp only [cmpP] at h25
      refine O_yy 17 hs rfl rfl (Y_pickT rfl rfl ?_)
      refine O_y hs (Y_pickF rfl rfl ?_)
      refine O_m rfl ?_
      refine O_yy 28 hs rfl rfl (Y_fieldAddr FO36_0 rfl (m := 0) rfl ?_)
      refine O_yy 28 hs rfl rfl (Y_ld 0 Tryz.isAgg3 rfl rfl rfl ?_)
      refine O_yy 28 hs rfl rfl (Y_cmpS rfl rfl rfl (fun h31 => ?_) (fun h31 => ?_))
      ·
       dsimp only [cmpP] at h31
       refine O_yy 28 hs rfl rfl (Y_move rfl ?_)
       refine O_yy 32 hs rfl rfl (Y_fieldAddr FO36_3 rfl (m := 3) rfl ?_)
       refine O_yy 32 hs rfl rfl (Y_ld 0 Tryz.isAgg25 rfl rfl rfl ?_)
       refine O_yy 32 hs rfl rfl (Y_len Tryz.underlying25 rfl ?_)
       refine O_yy 32 hs rfl rfl (Y_cmpS rfl rfl rfl (fun h36 => ?_) (fun h36 => ?_))
       ·
        dsimp only [cmpP] at h36
        refine O_yy 28 hs rfl rfl (Y_pickT rfl rfl ?_)
        refine O_y hs (Y_pickF rfl rfl ?_)
        refine O_a rfl ?_
        refine O_nil (T_kp [2] rfl ?_)
        refine T_ret ?_
        refine Rt_fin (vs := [_]) Tryz.results39 rfl ⟨rfl, trivial⟩ ?_
        try dsimp only [tup]
        have h6' := mt kw_iff.2 h6
        exact ⟨_, [], hs.done, rfl, by rw [un_t (by omega)]⟩
       ·
        dsimp only [cmpP] at h36
        refine O_yy 28 hs rfl rfl (Y_pickT rfl rfl ?_)
        refine O_y hs (Y_pickF rfl rfl ?_)
        refine O_a rfl ?_
        refine O_nil (T_kp [2] rfl ?_)
        refine T_ret ?_
        refine Rt_fin (vs := [_]) Tryz.results39 rfl ⟨rfl, trivial⟩ ?_
        try dsimp only [tup]
        have h6' := mt kw_iff.2 h6
        exact ⟨_, [], hs.done, rfl, by rw [un_f (by omega)]⟩
      ·
       dsimp only [cmpP] at h31
       refine O_yy 28 hs rfl rfl (Y_move rfl ?_)
       refine O_no 32 rfl rfl ?_
       refine O_no 32 rfl rfl ?_
       refine O_no 32 rfl rfl ?_
       refine O_no 32 rfl rfl ?_
       refine O_yy 28 hs rfl rfl (Y_pickF rfl rfl ?_)
       refine O_y hs (Y_pickF rfl rfl ?_)
       refine O_a rfl ?_
       refine O_nil (T_kp [2] rfl ?_)
       refine T_ret ?_
       refine Rt_fin (vs := [_]) Tryz.results39 rfl ⟨rfl, trivial⟩ ?_
       try dsimp only [tup]
       have h6' := mt kw_iff.2 h6
       exact ⟨_, [], hs.done, rfl, by rw [un_f (by omega)]⟩
    ·
     have h20' := useC_om.1 h20
     refine O_yy 17 hs rfl rfl (Y_not rfl ?_)
     refine O_yy 17 hs rfl rfl (Y_move rfl ?_)
     refine O_no 22 rfl rfl ?_
     refine O_no 22 rfl rfl ?_
     refine O_no 22 rfl rfl ?_
     refine O_yy 17 hs rfl rfl (Y_pickF rfl rfl ?_)
     refine O_y hs (Y_pickF rfl rfl ?_)
     refine O_m rfl ?_
     refine O_yy 28 hs rfl rfl (Y_fieldAddr FO36_0 rfl (m := 0) rfl ?_)
     refine O_yy 28 hs rfl rfl (Y_ld 0 Tryz.isAgg3 rfl rfl rfl ?_)
     refine O_yy 28 hs rfl rfl (Y_cmpS rfl rfl rfl (fun h31 => ?_) (fun h31 => ?_))
     ·
      dsimp only [cmpP] at h31
      refine O_yy 28 hs rfl rfl (Y_move rfl ?_)
      refine O_yy 32 hs rfl rfl (Y_fieldAddr FO36_3 rfl (m := 3) rfl ?_)
      refine O_yy 32 hs rfl rfl (Y_ld 0 Tryz.isAgg25 rfl rfl rfl ?_)
      refine O_yy 32 hs rfl rfl (Y_len Tryz.underlying25 rfl ?_)
      refine O_yy 32 hs rfl rfl (Y_cmpS rfl rfl rfl (fun h36 => ?_) (fun h36 => ?_))
      ·
       dsimp only [cmpP] at h36
       refine O_yy 28 hs rfl rfl (Y_pickT rfl rfl ?_)
       refine O_y hs (Y_pickF rfl rfl ?_)
       refine O_a rfl ?_
       refine O_nil (T_kp [2] rfl ?_)
       refine T_ret ?_
       refine Rt_fin (vs := [_]) Tryz.results39 rfl ⟨rfl, trivial⟩ ?_
       try dsimp only [tup]
       have h6' := mt kw_iff.2 h6
       exact ⟨_, [], hs.done, rfl, by rw [un_t (by omega)]⟩
      ·
       dsimp only [cmpP] at h36
       refine O_yy 28 hs rfl rfl (Y_pickT rfl rfl ?_)
       refine O_y hs (Y_pickF rfl rfl ?_)
       refine O_a rfl ?_
       refine O_nil (T_kp [2] rfl ?_)
       refine T_ret ?_
       refine Rt_fin (vs := [_]) Tryz.results39 rfl ⟨rfl, trivial⟩ ?_
       try dsimp only [tup]
       have h6' := mt kw_iff.2 h6
       exact ⟨_, [], hs.done, rfl, by rw [un_f (by omega)]⟩
     ·
      dsimp only [cmpP] at h31
      refine O_yy 28 hs rfl rfl (Y_move rfl ?_)
      refine O_no 32 rfl rfl ?_
      refine O_no 32 rfl rfl ?_
      refine O_no 32 rfl rfl ?_
      refine O_no 32 rfl rfl ?_
      refine O_yy 28 hs rfl rfl (Y_pickF rfl rfl ?_)
      refine O_y hs (Y_pickF rfl rfl ?_)
      refine O_a rfl ?_
      refine O_nil (T_kp [2] rfl ?_)
      refine T_ret ?_
      refine Rt_fin (vs := [_]) Tryz.results39 rfl ⟨rfl, trivial⟩ ?_
      try dsimp only [tup]
      have h6' := mt kw_iff.2 h6
      exact ⟨_, [], hs.done, rfl, by rw [un_f (by omega)]⟩
  ·
   dsimp only [cmpP] at h10
   refine O_yy 7 hs rfl rfl (Y_move rfl ?_)
   refine O_no 11 rfl rfl ?_
   refine O_no 11 rfl rfl ?_
   refine O_no 11 rfl rfl ?_
   refine O_yy 7 hs rfl rfl (Y_pickF rfl rfl ?_)
   refine O_y hs (Y_pickF rfl rfl ?_)
   refine O_m rfl ?_
   refine O_yy 17 hs rfl rfl (Y_fieldAddr FO36_0 rfl (m := 0) rfl ?_)
   refine O_yy 17 hs rfl rfl (Y_ld 0 Tryz.isAgg3 rfl rfl rfl ?_)
   refine O_yes 17 rfl rfl (S_call (H1 := []) hs rfl Tryz.func24 rfl (by kernel_rfl) (hasc_ok) fun v3 G' H' _ hR hG20 hs => ?_)
   obtain ⟨rfl, rfl⟩ := hR
   replace hs : St _ _ [_] _ := hs
   cases h20 : useC e.kind.toNat
   ·
    have h20' := useC_no h20
    refine O_yy 17 hs rfl rfl (Y_not rfl ?_)
    refine O_yy 17 hs rfl rfl (Y_move rfl ?_)
    refine O_yy 22 hs rfl rfl (Y_fieldAddr FO36_2 rfl (m := 2) rfl ?_)
    refine O_yy 22 hs rfl rfl (Y_ld 0 Tryz.isAgg3 rfl rfl rfl ?_)
    refine O_yy 22 hs rfl rfl (Y_cmpS rfl rfl rfl (fun h25 => ?_) (fun h25 => ?_))
    ·
     dsimp only [cmpP] at h25
     refine O_yy 17 hs rfl rfl (Y_pickT rfl rfl ?_)
     refine O_y hs (Y_pickF rfl rfl ?_)
     refine O_m rfl ?_
     refine O_no 28 rfl rfl ?_
     refine O_no 28 rfl rfl ?_
     refine O_no 28 rfl rfl ?_
     refine O_no 28 rfl rfl ?_
     refine O_noU 32 rfl rfl ?_
     refine O_noU 32 rfl rfl ?_
     refine O_noU 32 rfl rfl ?_
     refine O_noU 32 rfl rfl ?_
     refine O_no 28 rfl rfl ?_
     refine O_y hs (Y_pickT rfl rfl ?_)
     refine O_a rfl ?_
     refine O_nil (T_kp [2] rfl ?_)
     refine T_ret ?_
     refine Rt_fin (vs := [_]) Tryz.results39 rfl ⟨rfl, trivial⟩ ?_
     try dsimp only [tup]
     have h6' := mt kw_iff.2 h6
     exact ⟨_, [], hs.done, rfl, by rw [un_t (by omega)]⟩
    ·
     dsimp only [cmpP] at h25
     refine O_yy 17 hs rfl rfl (Y_pickT rfl rfl ?_)
     refine O_y hs (Y_pickF rfl rfl ?_)
     refine O_m rfl ?_
     refine O_yy 28 hs rfl rfl (Y_fieldAddr FO36_0 rfl (m := 0) rfl ?_)
     refine O_yy 28 hs rfl rfl (Y_ld 0 Tryz.isAgg3 rfl rfl rfl ?_)
     refine O_yy 28 hs rfl rfl (Y_cmpS rfl rfl rfl (fun h31 => ?_) (fun h31 => ?_))
     ·
      dsimp only [cmpP] at h31
      refine O_yy 28 hs rfl rfl (Y_move rfl ?_)
      refine O_yy 32 hs rfl rfl (Y_fieldAddr FO36_3 rfl (m := 3) rfl ?_)
      refine O_yy 32 hs rfl rfl (Y_ld 0 Tryz.isAgg25 rfl rfl rfl ?_)
      refine O_yy 32 hs rfl rfl (Y_len Tryz.underlying25 rfl ?_)
      refine O_yy 32 hs rfl rfl (Y_cmpS rfl rfl rfl (fun h36 => ?_) (fun h36 => ?_))
      ·
       dsimp only [cmpP] at h36
       refine O_yy 28 hs rfl rfl (Y_pickT rfl rfl ?_)
       refine O_y hs (Y_pickF rfl rfl ?_)
       refine O_a rfl ?_
       refine O_nil (T_kp [2] rfl ?_)
       refine T_ret ?_
       refine Rt_fin (vs := [_]) Tryz.results39 rfl ⟨rfl, trivial⟩ ?_
       try dsimp only [tup]
       have h6' := mt kw_iff.2 h6
       exact ⟨_, [], hs.done, rfl, by rw [un_t (by omega)]⟩
      ·
       dsimp only [cmpP] at h36
       refine O_yy 28 hs rfl rfl (Y_pickT rfl rfl ?_)
       refine O_y hs (Y_pickF rfl rfl ?_)
       refine O_a rfl ?_
       refine O_nil (T_kp [2] rfl ?_)
       refine T_ret ?_
       refine Rt_fin (vs := [_]) Tryz.results39 rfl ⟨rfl, trivial⟩ ?_
       try dsimp only [tup]
       have h6' := mt kw_iff.2 h6
       exact ⟨_, [], hs.done, rfl, by rw [un_f (by omega)]⟩
     ·
      dsimp only [cmpP] at h31
      refine O_yy 28 hs rfl rfl (Y_move rfl ?_)
      refine O_no 32 rfl rfl ?_
      refine O_no 32 rfl rfl ?_
      refine O_no 32 rfl rfl ?_
      refine O_no 32 rfl rfl ?_
      refine O_yy 28 hs rfl rfl (Y_pickF rfl rfl ?_)
      refine O_y hs (Y_pickF rfl rfl ?_)
      refine O_a rfl ?_
      refine O_nil (T_kp [2] rfl ?_)
      refine T_ret ?_
      refine Rt_fin (vs := [_]) Tryz.results39 rfl ⟨rfl, trivial⟩ ?_
      try dsimp only [tup]
      have h6' := mt kw_iff.2 h6
      exact ⟨_, [], hs.done, rfl, by rw [un_f (by omega)]⟩
   ·
    have h20' := useC_om.1 h20
    refine O_yy 17 hs rfl rfl (Y_not rfl ?_)
    refine O_yy 17 hs rfl rfl (Y_move rfl ?_)
    refine O_no 22 rfl rfl ?_
    refine O_no 22 rfl rfl ?_
    refine O_no 22 rfl rfl ?_
    refine O_yy 17 hs rfl rfl (Y_pickF rfl rfl ?_)
    refine O_y hs (Y_pickF rfl rfl ?_)
    refine O_m rfl ?_
    refine O_yy 28 hs rfl rfl (Y_fieldAddr FO36_0 rfl (m := 0) rfl ?_)
    refine O_yy 28 hs rfl rfl (Y_ld 0 Tryz.isAgg3 rfl rfl rfl ?_)
    refine O_yy 28 hs rfl rfl (Y_cmpS rfl rfl rfl (fun h31 => ?_) (fun h31 => ?_))
    ·
     dsimp only [cmpP] at h31
     refine O_yy 28 hs rfl rfl (Y_move rfl ?_)
     refine O_yy 32 hs rfl rfl (Y_fieldAddr FO36_3 rfl (m := 3) rfl ?_)
     refine O_yy 32 hs rfl rfl (Y_ld 0 Tryz.isAgg25 rfl rfl rfl ?_)
     refine O_yy 32 hs rfl rfl (Y_len Tryz.underlying25 rfl ?_)
     refine O_yy 32 hs rfl rfl (Y_cmpS rfl rfl rfl (fun h36 => ?_) (fun h36 => ?_))
     ·
      dsimp only [cmpP] at h36
      refine O_yy 28 hs rfl rfl (Y_pickT rfl rfl ?_)
      refine O_y hs (Y_pickF rfl rfl ?_)
      refine O_a rfl ?_
      refine O_nil (T_kp [2] rfl ?_)
      refine T_ret ?_
      refine Rt_fin (vs := [_]) Tryz.results39 rfl ⟨rfl, trivial⟩ ?_
      try dsimp only [tup]
      have h6' := mt kw_iff.2 h6
      exact ⟨_, [], hs.done, rfl, by rw [un_t (by omega)]⟩
     ·
      dsimp only [cmpP] at h36
      refine O_yy 28 hs rfl rfl (Y_pickT rfl rfl ?_)
      refine O_y hs (Y_pickF rfl rfl ?_)
      refine O_a rfl ?_
      refine O_nil (T_kp [2] rfl ?_)
      refine T_ret ?_
      refine Rt_fin (vs := [_]) Tryz.results39 rfl ⟨rfl, trivial⟩ ?_
      try dsimp only [tup]
      have h6' := mt kw_iff.2 h6
      exact ⟨_, [], hs.done, rfl, by rw [un_f (by omega)]⟩
    ·
     dsimp only [cmpP] at h31
     refine O_yy 28 hs rfl rfl (Y_move rfl ?_)
     refine O_no 32 rfl rfl ?_
     refine O_no 32 rfl rfl ?_
     refine O_no 32 rfl rfl ?_
     refine O_no 32 rfl rfl ?_
     refine O_yy 28 hs rfl rfl (Y_pickF rfl rfl ?_)
     refine O_y hs (Y_pickF rfl rfl ?_)
     refine O_a rfl ?_
     refine O_nil (T_kp [2] rfl ?_)
     refine T_ret ?_
     refine Rt_fin (vs := [_]) Tryz.results39 rfl ⟨rfl, trivial⟩ ?_
     try dsimp only [tup]
     have h6' := mt kw_iff.2 h6
     exact ⟨_, [], hs.done, rfl, by rw [un_f (by omega)]⟩

set_option maxHeartbeats 400000 in
set_option maxRecDepth 10000 in
theorem writ_ok {G : Ghost} {e : Ev} {vb : Value} (hb : Bytes G vb e.b) :
  FnOk Tryz.prog 22 [.agg #[.int .i64 e.kind, .int .i64 e.a, .int .i64 e.c, vb]] G [] fun r _ H' => H' = [] ∧ r = .bool (wrE e) := by
 refine FnOk.of_T [(0, _)] Tryz.func22 rfl Tryz.ntmps22 (by simp) rfl fun w0 hs => ?_
 have hb0 := hb
 refine T_seq (T_region rfl ?_)
 refine O_s (S_box hs rfl (cs := [_, _, _, _]) rfl fun b1 _ hs => ?_)
 refine O_a rfl ?_
 refine O_nil (T_kp [1] rfl ?_)
 refine T_seq (T_region rfl ?_)
 refine O_y hs (Y_ldA 0 Tryz.isAgg36 Tryz.sizeOf36 rfl rfl (vs := [_, _, _, _]) rfl rfl ?_)
 refine O_s (S_call (H1 := []) hs rfl Tryz.func39 rfl (by kernel_rfl) (unus_ok hb) fun v1 G' H' _ hR hG4 hs => ?_)
 obtain ⟨rfl, rfl⟩ := hR
 replace hs : St _ _ [_] _ := hs
 replace hb := hb.mono hG4
 cases h4 : unE e
 ·
  refine O_y hs (Y_not rfl ?_)
  refine O_m rfl ?_
  refine O_yy 6 hs rfl rfl (Y_fieldAddr FO36_1 rfl (m := 1) rfl ?_)
  refine O_yy 6 hs rfl rfl (Y_ld 0 Tryz.isAgg3 rfl rfl rfl ?_)
  refine O_yy 6 hs rfl rfl (Y_cmpS rfl rfl rfl (fun h9 => ?_) (fun h9 => ?_))
  ·
   dsimp only [cmpP] at h9
   refine O_y hs (Y_pickT rfl rfl ?_)
   refine O_m rfl ?_
   refine O_yy 11 hs rfl rfl (Y_fieldAddr FO36_1 rfl (m := 1) rfl ?_)
   refine O_yy 11 hs rfl rfl (Y_ld 0 Tryz.isAgg3 rfl rfl rfl ?_)
   refine O_yy 11 hs rfl rfl (Y_cmpS rfl rfl rfl (fun h14 => ?_) (fun h14 => ?_))
   ·
    dsimp only [cmpP] at h14
    refine O_y hs (Y_pickT rfl rfl ?_)
    refine O_m rfl ?_
    refine O_yy 16 hs rfl rfl (Y_fieldAddr FO36_2 rfl (m := 2) rfl ?_)
    refine O_yy 16 hs rfl rfl (Y_ld 0 Tryz.isAgg3 rfl rfl rfl ?_)
    refine O_yy 16 hs rfl rfl (Y_cmpS rfl rfl rfl (fun h19 => ?_) (fun h19 => ?_))
    ·
     dsimp only [cmpP] at h19
     refine O_y hs (Y_pickT rfl rfl ?_)
     refine O_m rfl ?_
     refine O_yy 21 hs rfl rfl (Y_fieldAddr FO36_2 rfl (m := 2) rfl ?_)
     refine O_yy 21 hs rfl rfl (Y_ld 0 Tryz.isAgg3 rfl rfl rfl ?_)
     refine O_yy 21 hs rfl rfl (Y_cmpS rfl rfl rfl (fun h24 => ?_) (fun h24 => ?_))
     ·
      dsimp only [cmpP] at h24
      refine O_y hs (Y_pickT rfl rfl ?_)
      refine O_a rfl ?_
      refine O_nil (T_kp [2] rfl ?_)
      refine T_ret ?_
      refine Rt_fin (vs := [_]) Tryz.results22 rfl ⟨rfl, trivial⟩ ?_
      try dsimp only [tup]
      have hf : fitE e = true := by unfold unE at h4; simpa using h4
      exact ⟨_, [], hs.done, rfl, by rw [wr_yes hf (by omega) (by omega) (by omega) (by omega)]⟩
     ·
      dsimp only [cmpP] at h24
      refine O_y hs (Y_pickT rfl rfl ?_)
      refine O_a rfl ?_
      refine O_nil (T_kp [2] rfl ?_)
      refine T_ret ?_
      refine Rt_fin (vs := [_]) Tryz.results22 rfl ⟨rfl, trivial⟩ ?_
      try dsimp only [tup]
      have hf : fitE e = true := by unfold unE at h4; simpa using h4
      exact ⟨_, [], hs.done, rfl, by rw [wr_no (e := e) (fun h => by omega)]⟩
    ·
     dsimp only [cmpP] at h19
     refine O_y hs (Y_pickT rfl rfl ?_)
     refine O_m rfl ?_
     refine O_no 21 rfl rfl ?_
     refine O_no 21 rfl rfl ?_
     refine O_no 21 rfl rfl ?_
     refine O_y hs (Y_pickF rfl rfl ?_)
     refine O_a rfl ?_
     refine O_nil (T_kp [2] rfl ?_)
     refine T_ret ?_
     refine Rt_fin (vs := [_]) Tryz.results22 rfl ⟨rfl, trivial⟩ ?_
     try dsimp only [tup]
     have hf : fitE e = true := by unfold unE at h4; simpa using h4
     exact ⟨_, [], hs.done, rfl, by rw [wr_no (e := e) (fun h => by omega)]⟩
   ·
    dsimp only [cmpP] at h14
    refine O_y hs (Y_pickT rfl rfl ?_)
    refine O_m rfl ?_
    refine O_no 16 rfl rfl ?_
    refine O_no 16 rfl rfl ?_
    refine O_no 16 rfl rfl ?_
    refine O_y hs (Y_pickF rfl rfl ?_)
    refine O_m rfl ?_
    refine O_no 21 rfl rfl ?_
    refine O_no 21 rfl rfl ?_
    refine O_no 21 rfl rfl ?_
    refine O_y hs (Y_pickF rfl rfl ?_)
    refine O_a rfl ?_
    refine O_nil (T_kp [2] rfl ?_)
    refine T_ret ?_
    refine Rt_fin (vs := [_]) Tryz.results22 rfl ⟨rfl, trivial⟩ ?_
    try dsimp only [tup]
    have hf : fitE e = true := by unfold unE at h4; simpa using h4
    exact ⟨_, [], hs.done, rfl, by rw [wr_no (e := e) (fun h => by omega)]⟩
  ·
   dsimp only [cmpP] at h9
   refine O_y hs (Y_pickT rfl rfl ?_)
   refine O_m rfl ?_
   refine O_no 11 rfl rfl ?_
   refine O_no 11 rfl rfl ?_
   refine O_no 11 rfl rfl ?_
   refine O_y hs (Y_pickF rfl rfl ?_)
   refine O_m rfl ?_
   refine O_no 16 rfl rfl ?_
   refine O_no 16 rfl rfl ?_
   refine O_no 16 rfl rfl ?_
   refine O_y hs (Y_pickF rfl rfl ?_)
   refine O_m rfl ?_
   refine O_no 21 rfl rfl ?_
   refine O_no 21 rfl rfl ?_
   refine O_no 21 rfl rfl ?_
   refine O_y hs (Y_pickF rfl rfl ?_)
   refine O_a rfl ?_
   refine O_nil (T_kp [2] rfl ?_)
   refine T_ret ?_
   refine Rt_fin (vs := [_]) Tryz.results22 rfl ⟨rfl, trivial⟩ ?_
   try dsimp only [tup]
   have hf : fitE e = true := by unfold unE at h4; simpa using h4
   exact ⟨_, [], hs.done, rfl, by rw [wr_no (e := e) (fun h => by omega)]⟩
 ·
  refine O_y hs (Y_not rfl ?_)
  refine O_m rfl ?_
  refine O_no 6 rfl rfl ?_
  refine O_no 6 rfl rfl ?_
  refine O_no 6 rfl rfl ?_
  refine O_y hs (Y_pickF rfl rfl ?_)
  refine O_m rfl ?_
  refine O_no 11 rfl rfl ?_
  refine O_no 11 rfl rfl ?_
  refine O_no 11 rfl rfl ?_
  refine O_y hs (Y_pickF rfl rfl ?_)
  refine O_m rfl ?_
  refine O_no 16 rfl rfl ?_
  refine O_no 16 rfl rfl ?_
  refine O_no 16 rfl rfl ?_
  refine O_y hs (Y_pickF rfl rfl ?_)
  refine O_m rfl ?_
  refine O_no 21 rfl rfl ?_
  refine O_no 21 rfl rfl ?_
  refine O_no 21 rfl rfl ?_
  refine O_y hs (Y_pickF rfl rfl ?_)
  refine O_a rfl ?_
  refine O_nil (T_kp [2] rfl ?_)
  refine T_ret ?_
  refine Rt_fin (vs := [_]) Tryz.results22 rfl ⟨rfl, trivial⟩ ?_
  try dsimp only [tup]
  have hf : fitE e = false := by unfold unE at h4; simpa using h4
  exact ⟨_, [], hs.done, rfl, by rw [wr_no (e := e) (fun h => by rw [hf] at h; cases h.1)]⟩

def DigC (n : Nat) : Prop := ∀ G : Ghost, FnOk Tryz.prog 41 [.int .i64 (n : Int)] G [] fun r _ H' => H' = [] ∧ r = .string ⟨(Lib.decDigits n).toArray⟩


set_option maxHeartbeats 400000 in
set_option maxRecDepth 10000 in
theorem digi_ok {n : Nat} (hn : n ≤ 9999999) (ih : ¬ n < 10 → DigC (n / 10)) : DigC n := by
 intro G
 refine FnOk.of_T [(0, _)] Tryz.func41 rfl Tryz.ntmps41 (by simp) rfl fun w0 hs => ?_
 refine T_seq (T_region rfl ?_)
 refine O_a rfl ?_
 refine O_nil (T_kp [0] rfl ?_)
 refine T_seq (T_seq (T_region rfl ?_))
 refine O_m rfl ?_
 refine O_y hs (Y_cmpS rfl rfl rfl (fun h4 => ?_) (fun h4 => ?_))
 ·
  dsimp only [cmpP] at h4
  refine O_nil (T_kp [0, 4] rfl ?_)
  refine T_condT rfl (T_seq (T_region rfl ?_))
  refine O_m rfl ?_
  refine O_y hs (Y_add (c := ((48 + n : Nat) : Int)) rfl rfl (by omega) (by omega) ?_)
  refine O_y hs (Y_conv Tryz.underlying3 Tryz.underlying5 (c := ((UInt8.ofNat (48 + n)).toNat : Int)) rfl (u8wrap _) ?_)
  refine O_s (S_lit hs Tryz.underlying25 Tryz.sizeOf5 Tryz.zeroValue5 rfl rfl (by decide) (by decide) rfl (cs := [_]) rfl rfl fun v1 _ hs _ => ?_)
  obtain ⟨_, hG8, hl8, hs⟩ := hs.fixRow noM
  refine O_y hs (Y_str (bs := [UInt8.ofNat (48 + n)]) Tryz.underlying25 Tryz.underlying5 Tryz.underlying9 rfl (Bytes.ofSl (bs := [UInt8.ofNat (48 + n)]) hl8 rfl rfl) ?_)
  refine O_a rfl ?_
  refine O_nil (T_kp [2] rfl ?_)
  refine T_ret ?_
  refine Rt_fin (vs := [_]) Tryz.results41 rfl ⟨rfl, trivial⟩ ?_
  try dsimp only [tup]
  exact ⟨_, [], hs.done, rfl, by rw [dec_small (n := n) (by omega)]⟩
 ·
  dsimp only [cmpP] at h4
  refine O_nil (T_kp [0, 4] rfl ?_)
  refine T_condF rfl (T_skip ?_)
  refine T_seq (T_drawS [0, 1, 2, 3, 4, 5, 6, 7, 8, 9, 10] hs (by kernel_rfl) ?_)
  replace hs := hs.drew
  refine A_take 0 rfl (by kernel_rfl) rfl hs (Y_move rfl ?_)
  refine A_take 1 rfl (by kernel_rfl) rfl hs (Y_quo (c := ((n / 10 : Nat) : Int)) rfl rfl (by omega) (by decide) (by omega) ?_)
  refine A_take 3 rfl (by kernel_rfl) rfl hs (Y_move rfl ?_)
  refine A_take 4 rfl (by kernel_rfl) rfl hs (Y_rem (c := ((n % 10 : Nat) : Int)) rfl rfl (by omega) (by decide) (by omega) ?_)
  refine A_take 5 rfl (by kernel_rfl) rfl hs (Y_add (c := ((48 + n % 10 : Nat) : Int)) rfl rfl (by omega) (by omega) ?_)
  refine A_take 6 rfl (by kernel_rfl) rfl hs (Y_conv Tryz.underlying3 Tryz.underlying5 (c := ((UInt8.ofNat (48 + n % 10)).toNat : Int)) rfl (u8wrap _) ?_)
  refine A_two 2 7 rfl rfl (by kernel_rfl) rfl rfl ?_ ?_
  ·
   have hle := hs.le
   refine S_call (H1 := []) hs rfl Tryz.func41 rfl (by kernel_rfl) (ih (by omega) _) fun v2 G' H' _ hR hG12 hs => ?_
   obtain ⟨rfl, rfl⟩ := hR
   replace hs : St _ _ [] _ := hs
   refine A_moreS hs hle hG12 (List.Sublist.refl _) ?_
   have hle := hs.le
   refine A_only 7 rfl (by kernel_rfl) rfl (S_lit hs Tryz.underlying25 Tryz.sizeOf5 Tryz.zeroValue5 rfl rfl (by decide) (by decide) rfl (cs := [_]) rfl rfl fun v3 _ hs _ => ?_)
   obtain ⟨_, hG17, hl17, hs⟩ := hs.fixRow noM
   refine A_moreS hs hle hG17 (List.Sublist.refl _) ?_
   refine A_take 8 rfl (by kernel_rfl) rfl hs (Y_str (bs := [UInt8.ofNat (48 + n % 10)]) Tryz.underlying25 Tryz.underlying5 Tryz.underlying9 rfl (Bytes.ofSl (bs := [UInt8.ofNat (48 + n % 10)]) hl17 rfl rfl) ?_)
   refine A_take 9 rfl (by kernel_rfl) rfl hs (Y_cat rfl rfl (by have := dec_len7 (n := n / 10) (by omega); rw [List.length_singleton]; omega) ?_)
   refine A_take 10 rfl (by kernel_rfl) rfl hs (Y_assign rfl ?_)
   refine A_done (by kernel_rfl) (T_kp [2] rfl ?_)
   refine T_ret ?_
   refine Rt_fin (vs := [_]) Tryz.results41 rfl ⟨rfl, trivial⟩ ?_
   try dsimp only [tup]
   exact ⟨_, [], hs.done, rfl, by rw [dec_big (n := n) (by omega)]⟩
  ·
   have hle := hs.le
   refine S_lit hs Tryz.underlying25 Tryz.sizeOf5 Tryz.zeroValue5 rfl rfl (by decide) (by decide) rfl (cs := [_]) rfl rfl fun v4 _ hs _ => ?_
   obtain ⟨_, hG17, hl17, hs⟩ := hs.fixRow noM
   refine A_moreS hs hle hG17 (List.Sublist.refl _) ?_
   refine A_take 8 rfl (by kernel_rfl) rfl hs (Y_str (bs := [UInt8.ofNat (48 + n % 10)]) Tryz.underlying25 Tryz.underlying5 Tryz.underlying9 rfl (Bytes.ofSl (bs := [UInt8.ofNat (48 + n % 10)]) hl17 rfl rfl) ?_)
   have hle := hs.le
   refine A_only 2 rfl (by kernel_rfl) rfl (S_call (H1 := []) hs rfl Tryz.func41 rfl (by kernel_rfl) (ih (by omega) _) fun v5 G' H' _ hR hG12 hs => ?_)
   obtain ⟨rfl, rfl⟩ := hR
   replace hs : St _ _ [] _ := hs
   replace hl17 := hl17.mono hG12
   refine A_moreS hs hle hG12 (List.Sublist.refl _) ?_
   refine A_take 9 rfl (by kernel_rfl) rfl hs (Y_cat rfl rfl (by have := dec_len7 (n := n / 10) (by omega); rw [List.length_singleton]; omega) ?_)
   refine A_take 10 rfl (by kernel_rfl) rfl hs (Y_assign rfl ?_)
   refine A_done (by kernel_rfl) (T_kp [2] rfl ?_)
   refine T_ret ?_
   refine Rt_fin (vs := [_]) Tryz.results41 rfl ⟨rfl, trivial⟩ ?_
   try dsimp only [tup]
   exact ⟨_, [], hs.done, rfl, by rw [dec_big (n := n) (by omega)]⟩

theorem dig_ok : ∀ n : Nat, n ≤ 9999999 → DigC n := by
  intro n
  induction n using Nat.strongRecOn with
  | ind n ih => intro hn; exact digi_ok hn fun h => ih _ (by omega) (by omega)
theorem digi_int {G : Ghost} {n : Int} (h0 : 0 ≤ n) (h1 : n ≤ 1048576) : FnOk Tryz.prog 41 [.int .i64 n] G [] fun r _ H' => H' = [] ∧ r = .string ⟨(numT n).toArray⟩ := by
  obtain ⟨k, rfl⟩ := Int.eq_ofNat_of_zero_le h0
  exact dig_ok k (by omega) G
theorem hexI_dig : ∀ x : UInt8, 48 ≤ x.toNat ∧ x.toNat ≤ 57 → hexI x = ((x.toNat - 48 : Nat) : Int) := u8_all (by decide +kernel)
theorem hexI_let : ∀ x : UInt8, 97 ≤ x.toNat ∧ x.toNat ≤ 102 → hexI x = ((x.toNat - 87 : Nat) : Int) := u8_all (by decide +kernel)
theorem hexI_non : ∀ x : UInt8, ¬ (48 ≤ x.toNat ∧ x.toNat ≤ 57) → ¬ (97 ≤ x.toNat ∧ x.toNat ≤ 102) → hexI x = -1 := u8_all (by decide +kernel)
theorem u8subk {b : UInt8} {k : Nat} (h : k ≤ b.toNat) : IntKind.i64.wrap (IntKind.u8.wrap ((b.toNat : Int) - (k : Int))) = ((b.toNat - k : Nat) : Int) := by
  have := b.toNat_lt
  rw [IntKind.wrap_u8, wrap64_eq (by omega)]; omega
theorem one2 {a b : Int} {k : IntKind} : ∀ y ∈ [Value.int k a, .int k b], y.oneCell' = true := by
  intro y hy
  simp only [List.mem_cons, List.not_mem_nil, or_false] at hy
  rcases hy with rfl | rfl <;> rfl


set_option maxHeartbeats 400000 in
set_option maxRecDepth 10000 in
theorem rdig_ok {G : Ghost} {x : UInt8} :
  FnOk Tryz.prog 80 [.int .u8 (x.toNat : Int)] G [] fun r _ H' => H' = [] ∧ r = .int .i64 (hexI x) := by
 refine FnOk.of_T [(0, _)] Tryz.func80 rfl Tryz.ntmps80 (by simp) rfl fun w0 hs => ?_
 refine T_seq (T_region rfl ?_)
 refine O_a rfl ?_
 refine O_nil (T_kp [0] rfl ?_)
 refine T_seq (T_seq (T_region rfl ?_))
 refine O_m rfl ?_
 refine O_y hs (Y_cmpS rfl rfl rfl (fun h4 => ?_) (fun h4 => ?_))
 ·
  dsimp only [cmpP] at h4
  refine O_m rfl ?_
  refine O_yy 5 hs rfl rfl (Y_move rfl ?_)
  refine O_yy 5 hs rfl rfl (Y_cmpS rfl rfl rfl (fun h7 => ?_) (fun h7 => ?_))
  ·
   dsimp only [cmpP] at h7
   refine O_y hs (Y_pickT rfl rfl ?_)
   refine O_nil (T_kp [0, 8] rfl ?_)
   refine T_condT rfl (T_seq (T_region rfl ?_))
   refine O_m rfl ?_
   refine O_y hs (Y_subW rfl rfl ?_)
   refine O_y hs (Y_conv Tryz.underlying5 Tryz.underlying3 (c := ((x.toNat - 48 : Nat) : Int)) rfl (u8subk (k := 48) (by omega)) ?_)
   refine O_a rfl ?_
   refine O_nil (T_kp [2] rfl ?_)
   refine T_ret ?_
   refine Rt_fin (vs := [_]) Tryz.results80 rfl ⟨rfl, trivial⟩ ?_
   try dsimp only [tup]
   exact ⟨_, [], hs.done, rfl, by rw [hexI_dig x (by omega)]⟩
  ·
   dsimp only [cmpP] at h7
   refine O_y hs (Y_pickT rfl rfl ?_)
   refine O_nil (T_kp [0, 8] rfl ?_)
   refine T_condF rfl (T_skip ?_)
   refine T_seq (T_seq (T_region rfl ?_))
   refine O_m rfl ?_
   refine O_y hs (Y_cmpS rfl rfl rfl (fun h13 => ?_) (fun h13 => ?_))
   ·
    dsimp only [cmpP] at h13
    refine O_m rfl ?_
    refine O_yy 14 hs rfl rfl (Y_move rfl ?_)
    refine O_yy 14 hs rfl rfl (Y_cmpS rfl rfl rfl (fun h16 => ?_) (fun h16 => ?_))
    ·
     dsimp only [cmpP] at h16
     refine O_y hs (Y_pickT rfl rfl ?_)
     refine O_nil (T_kp [0, 17] rfl ?_)
     refine T_condT rfl (T_seq (T_region rfl ?_))
     refine O_m rfl ?_
     refine O_y hs (Y_subW rfl rfl ?_)
     refine O_y hs (Y_conv Tryz.underlying5 Tryz.underlying3 (c := ((x.toNat - 97 : Nat) : Int)) rfl (u8subk (k := 97) (by omega)) ?_)
     refine O_y hs (Y_add (c := ((x.toNat - 87 : Nat) : Int)) rfl rfl (by omega) (by omega) ?_)
     refine O_a rfl ?_
     refine O_nil (T_kp [2] rfl ?_)
     refine T_ret ?_
     refine Rt_fin (vs := [_]) Tryz.results80 rfl ⟨rfl, trivial⟩ ?_
     try dsimp only [tup]
     exact ⟨_, [], hs.done, rfl, by rw [hexI_let x (by omega)]⟩
    ·
     dsimp only [cmpP] at h16
     refine O_y hs (Y_pickT rfl rfl ?_)
     refine O_nil (T_kp [0, 17] rfl ?_)
     refine T_condF rfl (T_skip ?_)
     refine T_seq (T_region rfl ?_)
     refine O_a rfl ?_
     refine O_nil (T_kp [2] rfl ?_)
     refine T_ret ?_
     refine Rt_fin (vs := [_]) Tryz.results80 rfl ⟨rfl, trivial⟩ ?_
     try dsimp only [tup]
     exact ⟨_, [], hs.done, rfl, by rw [hexI_non x (by omega) (by omega)]⟩
   ·
    dsimp only [cmpP] at h13
    refine O_m rfl ?_
    refine O_no 14 rfl rfl ?_
    refine O_no 14 rfl rfl ?_
    refine O_y hs (Y_pickF rfl rfl ?_)
    refine O_nil (T_kp [0, 17] rfl ?_)
    refine T_condF rfl (T_skip ?_)
    refine T_seq (T_region rfl ?_)
    refine O_a rfl ?_
    refine O_nil (T_kp [2] rfl ?_)
    refine T_ret ?_
    refine Rt_fin (vs := [_]) Tryz.results80 rfl ⟨rfl, trivial⟩ ?_
    try dsimp only [tup]
    exact ⟨_, [], hs.done, rfl, by rw [hexI_non x (by omega) (by omega)]⟩
 ·
  dsimp only [cmpP] at h4
  refine O_m rfl ?_
  refine O_no 5 rfl rfl ?_
  refine O_no 5 rfl rfl ?_
  refine O_y hs (Y_pickF rfl rfl ?_)
  refine O_nil (T_kp [0, 8] rfl ?_)
  refine T_condF rfl (T_skip ?_)
  refine T_seq (T_seq (T_region rfl ?_))
  refine O_m rfl ?_
  refine O_y hs (Y_cmpS rfl rfl rfl (fun h13 => ?_) (fun h13 => ?_))
  ·
   dsimp only [cmpP] at h13
   refine O_m rfl ?_
   refine O_yy 14 hs rfl rfl (Y_move rfl ?_)
   refine O_yy 14 hs rfl rfl (Y_cmpS rfl rfl rfl (fun h16 => ?_) (fun h16 => ?_))
   ·
    dsimp only [cmpP] at h16
    refine O_y hs (Y_pickT rfl rfl ?_)
    refine O_nil (T_kp [0, 17] rfl ?_)
    refine T_condT rfl (T_seq (T_region rfl ?_))
    refine O_m rfl ?_
    refine O_y hs (Y_subW rfl rfl ?_)
    refine O_y hs (Y_conv Tryz.underlying5 Tryz.underlying3 (c := ((x.toNat - 97 : Nat) : Int)) rfl (u8subk (k := 97) (by omega)) ?_)
    refine O_y hs (Y_add (c := ((x.toNat - 87 : Nat) : Int)) rfl rfl (by omega) (by omega) ?_)
    refine O_a rfl ?_
    refine O_nil (T_kp [2] rfl ?_)
    refine T_ret ?_
    refine Rt_fin (vs := [_]) Tryz.results80 rfl ⟨rfl, trivial⟩ ?_
    try dsimp only [tup]
    exact ⟨_, [], hs.done, rfl, by rw [hexI_let x (by omega)]⟩
   ·
    dsimp only [cmpP] at h16
    refine O_y hs (Y_pickT rfl rfl ?_)
    refine O_nil (T_kp [0, 17] rfl ?_)
    refine T_condF rfl (T_skip ?_)
    refine T_seq (T_region rfl ?_)
    refine O_a rfl ?_
    refine O_nil (T_kp [2] rfl ?_)
    refine T_ret ?_
    refine Rt_fin (vs := [_]) Tryz.results80 rfl ⟨rfl, trivial⟩ ?_
    try dsimp only [tup]
    exact ⟨_, [], hs.done, rfl, by rw [hexI_non x (by omega) (by omega)]⟩
  ·
   dsimp only [cmpP] at h13
   refine O_m rfl ?_
   refine O_no 14 rfl rfl ?_
   refine O_no 14 rfl rfl ?_
   refine O_y hs (Y_pickF rfl rfl ?_)
   refine O_nil (T_kp [0, 17] rfl ?_)
   refine T_condF rfl (T_skip ?_)
   refine T_seq (T_region rfl ?_)
   refine O_a rfl ?_
   refine O_nil (T_kp [2] rfl ?_)
   refine T_ret ?_
   refine Rt_fin (vs := [_]) Tryz.results80 rfl ⟨rfl, trivial⟩ ?_
   try dsimp only [tup]
   exact ⟨_, [], hs.done, rfl, by rw [hexI_non x (by omega) (by omega)]⟩

set_option maxHeartbeats 400000 in
set_option maxRecDepth 10000 in
theorem rhex_ok {G : Ghost} {v : Value} {b : List UInt8} (hb : Bytes G v b) (hl : b.length ≤ 400000) :
  FnOk Tryz.prog 42 [v] G [] fun r _ H' => H' = [] ∧ r = .string ⟨(hexT b).toArray⟩ := by
 obtain ⟨A, cap, rfl, _⟩ := id hb
 refine FnOk.of_T [(0, _)] Tryz.func42 rfl Tryz.ntmps42 (by simp) rfl fun w0 hs => ?_
 have hb0 := hb
 refine T_seq (T_region rfl ?_)
 refine O_a rfl ?_
 refine O_nil (T_kp [0] rfl ?_)
 refine T_seq (T_seq (T_region rfl ?_))
 refine O_m rfl ?_
 refine O_y hs (Y_len Tryz.underlying25 rfl ?_)
 refine O_y hs (Y_cmpS rfl rfl rfl (fun h8 => ?_) (fun h8 => ?_))
 ·
  dsimp only [cmpP] at h8
  refine O_nil (T_kp [0, 8] rfl ?_)
  refine T_condT rfl (T_seq (T_region rfl ?_))
  refine O_a rfl ?_
  refine O_nil (T_kp [2] rfl ?_)
  refine T_ret ?_
  refine Rt_fin (vs := [_]) Tryz.results42 rfl ⟨rfl, trivial⟩ ?_
  try dsimp only [tup]
  exact ⟨_, [], hs.done, rfl, by rw [hexT_nil (by omega)]⟩
 ·
  dsimp only [cmpP] at h8
  refine O_nil (T_kp [0, 8] rfl ?_)
  refine T_condF rfl (T_skip ?_)
  refine T_seq (T_region rfl ?_)
  refine O_s (S_lit hs Tryz.underlying25 Tryz.sizeOf5 Tryz.zeroValue5 rfl rfl (by decide) (by decide) rfl (cs := []) rfl rfl fun v1 _ hs _ => ?_)
  refine O_a rfl ?_
  refine O_a rfl ?_
  refine O_nil (T_kp [0, 3, 4] rfl ?_)
  refine T_seq (T_seq (T_region rfl ?_))
  refine O_a rfl ?_
  refine O_nil (T_kp [0, 3, 4, 5] rfl ?_)
  refine T_block (T_loop (fun m E w => ∃ (k : Nat) (v : Value) (G2 : Ghost), k ≤ b.length ∧ m = b.length - k ∧ E = ⟨[], [(0, (.slice A b.length cap)), (3, .string ⟨#[48, 49, 50, 51, 52, 53, 54, 55, 56, 57, 97, 98, 99, 100, 101, 102]⟩), (4, v), (5, .int .i64 (k : Int))]⟩ ∧ St ⟨w0, G, feet []⟩ G2 [.row 5 1 v (hexP (b.take k)).length ((hexP (b.take k)).map byteV)] w) (L := [(0, _), (3, _), (4, _), (5, _)]) ⟨rfl, rfl, rfl, rfl, trivial⟩ (⟨0, _, _, by omega, rfl, rfl, hs⟩) fun m E w hI => ?_)
  obtain ⟨k, v, G2, hk, rfl, rfl, hs⟩ := hI
  have hb := hb0.mono hs.le
  refine T_seq (T_seq (T_region rfl ?_))
  refine O_m rfl ?_
  refine O_m rfl ?_
  refine O_y hs (Y_len Tryz.underlying25 rfl ?_)
  refine O_y hs (Y_cmpS rfl rfl rfl (fun h13 => ?_) (fun h13 => ?_))
  ·
   dsimp only [cmpP] at h13
   refine O_nil (T_kp [0, 3, 4, 5, 13] rfl ?_)
   refine T_condT rfl (T_skip ?_)
   refine T_seq (T_block (T_drawS [0, 1, 2, 3, 4, 5, 6, 7, 8, 9, 10, 11, 12, 13, 14, 15] hs (by kernel_rfl) ?_))
   replace hs := hs.drew
   refine A_take 0 rfl (by kernel_rfl) rfl hs (Y_move rfl ?_)
   refine A_take 1 rfl (by kernel_rfl) rfl hs (Y_move rfl ?_)
   refine A_take 2 rfl (by kernel_rfl) rfl hs (Y_move rfl ?_)
   refine A_take 3 rfl (by kernel_rfl) rfl hs (Y_move rfl ?_)
   refine A_take 4 rfl (by kernel_rfl) rfl hs (Y_idxB hb k Tryz.underlying25 Tryz.sizeOf5 rfl rfl rfl (by omega) fun p20 hp20 => ?_)
   refine A_take 5 rfl (by kernel_rfl) rfl hs (Y_ldG Tryz.isAgg5 rfl (hp20) ?_)
   refine A_take 6 rfl (by kernel_rfl) rfl hs (Y_quoU (c := (((b[k]'(by omega)).toNat / 16 : Nat) : Int)) rfl rfl (by have := (b[k]'(by omega)).toNat_lt; omega) (by decide) (by omega) ?_)
   refine A_take 7 rfl (by kernel_rfl) rfl hs (Y_idxStr (b := (hexD ((b[k]'(by omega)).toNat / 16))) ((b[k]'(by omega)).toNat / 16) Tryz.underlying9 rfl rfl rfl (hexD_at (by have := (b[k]'(by omega)).toNat_lt; omega)) ?_)
   refine A_take 8 rfl (by kernel_rfl) rfl hs (Y_move rfl ?_)
   refine A_take 9 rfl (by kernel_rfl) rfl hs (Y_move rfl ?_)
   refine A_take 10 rfl (by kernel_rfl) rfl hs (Y_move rfl ?_)
   refine A_take 11 rfl (by kernel_rfl) rfl hs (Y_idxB hb k Tryz.underlying25 Tryz.sizeOf5 rfl rfl rfl (by omega) fun p27 hp27 => ?_)
   refine A_take 12 rfl (by kernel_rfl) rfl hs (Y_ldG Tryz.isAgg5 rfl (hp27) ?_)
   refine A_take 13 rfl (by kernel_rfl) rfl hs (Y_rem (c := (((b[k]'(by omega)).toNat % 16 : Nat) : Int)) rfl rfl (by omega) (by decide) (by omega) ?_)
   refine A_take 14 rfl (by kernel_rfl) rfl hs (Y_idxStr (b := (hexD ((b[k]'(by omega)).toNat % 16))) ((b[k]'(by omega)).toNat % 16) Tryz.underlying9 rfl rfl rfl (hexD_at (by omega)) ?_)
   have hle := hs.le
   refine A_only 15 rfl (by kernel_rfl) rfl (S_lit hs Tryz.underlying25 Tryz.sizeOf5 Tryz.zeroValue5 rfl rfl (by decide) (by decide) rfl (cs := [_, _]) rfl rfl fun v2 _ hs _ => ?_)
   obtain ⟨_, hG31, hl31, hs⟩ := hs.fixRow noM
   replace hb := hb.mono hG31
   refine A_moreS hs hle hG31 (List.Sublist.refl _) ?_
   refine A_tail 16 rfl (by kernel_rfl) (by kernel_rfl) rfl (S_append hs Tryz.underlying25 TI5 rfl (by decide) rfl rfl (hl31) (one2) (by have := hexP_len (b.take k); rw [List.length_take] at this; omega) (by have := hexP_len (b.take k); rw [List.length_take] at this; omega) fun v3 _ hs => ?_)
   refine A_tail 17 rfl (by kernel_rfl) (by kernel_rfl) rfl (S_y hs rfl (Y_assign rfl ?_))
   refine A_done (by kernel_rfl) (T_kp [0, 3, 4, 5] rfl ?_)
   refine T_region rfl ?_
   refine O_m rfl ?_
   refine O_y hs (Y_add (c := ((k + 1 : Nat) : Int)) rfl rfl (by omega) (by omega) ?_)
   refine O_a rfl ?_
   refine O_nil ⟨_, ?_, [(0, _), (3, _), (4, _), (5, _)], ⟨rfl, rfl, rfl, rfl, trivial⟩, ⟨k + 1, _, _, by omega, rfl, rfl, by rw [hexP_succ (by omega), List.map_append, List.length_append]; exact hs⟩⟩
   omega
  ·
   dsimp only [cmpP] at h13
   refine O_nil (T_kp [0, 3, 4, 5, 13] rfl ?_)
   refine T_condF rfl (T_exit ?_)
   obtain ⟨G9, hG9, hf, hs⟩ := hs.fixRow noM
   refine T_seq (T_region rfl ?_)
   refine O_m rfl ?_
   refine O_y hs (Y_str (bs := hexP (b.take k)) Tryz.underlying25 Tryz.underlying5 Tryz.underlying9 rfl hf ?_)
   refine O_a rfl ?_
   refine O_nil (T_kp [2] rfl ?_)
   refine T_ret ?_
   refine Rt_fin (vs := [_]) Tryz.results42 rfl ⟨rfl, trivial⟩ ?_
   try dsimp only [tup]
   have hkl : b.take k = b := List.take_of_length_le (by omega)
   exact ⟨_, _, hs.done, rfl, by rw [hexT_some (by omega), hkl]⟩

set_option maxHeartbeats 1000000 in
set_option maxRecDepth 10000 in
theorem line_ok {G : Ghost} {e : Ev} {vb : Value} (hb : Bytes G vb e.b) (hw : Wr e) (hl : e.b.length ≤ 400000) :
  FnOk Tryz.prog 23 [.agg #[.int .i64 e.kind, .int .i64 e.a, .int .i64 e.c, vb]] G [] fun r _ H' => H' = [] ∧ r = .string ⟨(lineT e).toArray⟩ := by
 have hfo := (fit_om e).1 ((Bool.and_eq_true _ _).mp ((wr_iff e).2 hw)).1
 have hwa := hw.la
 have hwc := hw.lc
 have hl1 := kw_len e.kind.toNat
 have hl2 : (numT e.a).length ≤ 7 := dec_len7 (by omega)
 have hl3 := hexT_len e.b
 have hl4 : (numT e.c).length ≤ 7 := dec_len7 (by omega)
 refine FnOk.of_T [(0, _)] Tryz.func23 rfl Tryz.ntmps23 (by simp) rfl fun w0 hs => ?_
 have hb0 := hb
 refine T_seq (T_region rfl ?_)
 refine O_s (S_box hs rfl (cs := [_, _, _, _]) rfl fun b1 _ hs => ?_)
 refine O_a rfl ?_
 refine O_nil (T_kp [1] rfl ?_)
 refine T_seq (T_region rfl ?_)
 refine O_y hs (Y_fieldAddr FO36_0 rfl (m := 0) rfl ?_)
 refine O_y hs (Y_ld 0 Tryz.isAgg3 rfl rfl rfl ?_)
 refine O_s (S_call (H1 := []) hs rfl Tryz.func40 rfl (by kernel_rfl) (keyw_ok) fun v1 G' H' _ hR hG6 hs => ?_)
 obtain ⟨rfl, rfl⟩ := hR
 replace hs : St _ _ [_] _ := hs
 replace hb := hb.mono hG6
 refine O_a rfl ?_
 refine O_nil (T_kp [1, 3] rfl ?_)
 refine T_seq (T_seq (T_region rfl ?_))
 refine O_y hs (Y_fieldAddr FO36_0 rfl (m := 0) rfl ?_)
 refine O_y hs (Y_ld 0 Tryz.isAgg3 rfl rfl rfl ?_)
 refine O_y hs (Y_cmpS rfl rfl rfl (fun h9 => ?_) (fun h9 => ?_))
 ·
  dsimp only [cmpP] at h9
  refine O_nil (T_kp [1, 3, 9] rfl ?_)
  refine T_condT rfl (T_region rfl ?_)
  refine O_m rfl ?_
  refine O_y hs (Y_cat rfl rfl (by simp only [List.length_append, List.length_cons, List.length_nil]; omega) ?_)
  refine O_y hs (Y_fieldAddr FO36_1 rfl (m := 1) rfl ?_)
  refine O_y hs (Y_ld 0 Tryz.isAgg3 rfl rfl rfl ?_)
  refine O_s (S_call (H1 := []) hs rfl Tryz.func41 rfl (by kernel_rfl) (digi_int (n := e.a) (by omega) (by omega)) fun v2 G' H' _ hR hG14 hs => ?_)
  obtain ⟨rfl, rfl⟩ := hR
  replace hs : St _ _ [_] _ := hs
  replace hb := hb.mono hG14
  refine O_y hs (Y_cat rfl rfl (by simp only [List.length_append, List.length_cons, List.length_nil]; omega) ?_)
  refine O_a rfl ?_
  refine O_nil (T_kp [1, 3] rfl ?_)
  refine T_seq (T_seq (T_region rfl ?_))
  refine O_y hs (Y_fieldAddr FO36_0 rfl (m := 0) rfl ?_)
  refine O_y hs (Y_ld 0 Tryz.isAgg3 rfl rfl rfl ?_)
  refine O_y hs (Y_cmpS rfl rfl rfl (fun h18 => ?_) (fun h18 => ?_))
  ·
   dsimp only [cmpP] at h18
   refine O_nil (T_kp [1, 3, 18] rfl ?_)
   refine T_condT rfl (T_region rfl ?_)
   refine O_m rfl ?_
   refine O_y hs (Y_cat rfl rfl (by simp only [List.length_append, List.length_cons, List.length_nil]; omega) ?_)
   refine O_y hs (Y_fieldAddr FO36_3 rfl (m := 3) rfl ?_)
   refine O_y hs (Y_ld 0 Tryz.isAgg25 rfl rfl rfl ?_)
   refine O_s (S_call (H1 := []) hs rfl Tryz.func42 rfl (by kernel_rfl) (rhex_ok hb hl) fun v3 G' H' _ hR hG23 hs => ?_)
   obtain ⟨rfl, rfl⟩ := hR
   replace hs : St _ _ [_] _ := hs
   replace hb := hb.mono hG23
   refine O_y hs (Y_cat rfl rfl (by simp only [List.length_append, List.length_cons, List.length_nil]; omega) ?_)
   refine O_a rfl ?_
   refine O_nil (T_kp [1, 3] rfl ?_)
   refine T_seq (T_seq (T_region rfl ?_))
   refine O_y hs (Y_fieldAddr FO36_0 rfl (m := 0) rfl ?_)
   refine O_y hs (Y_ld 0 Tryz.isAgg3 rfl rfl rfl ?_)
   refine O_s (S_call (H1 := []) hs rfl Tryz.func24 rfl (by kernel_rfl) (hasc_ok) fun v4 G' H' _ hR hG27 hs => ?_)
   obtain ⟨rfl, rfl⟩ := hR
   replace hs : St _ _ [_] _ := hs
   replace hb := hb.mono hG27
   cases h27 : useC e.kind.toNat
   ·
    refine O_nil (T_kp [1, 3, 27] rfl ?_)
    refine T_condF rfl (T_skip ?_)
    refine T_seq (T_region rfl ?_)
    refine O_m rfl ?_
    refine O_y hs (Y_cat rfl rfl (by simp only [List.length_append, List.length_cons, List.length_nil]; omega) ?_)
    refine O_a rfl ?_
    refine O_nil (T_kp [2] rfl ?_)
    refine T_ret ?_
    refine Rt_fin (vs := [_]) Tryz.results23 rfl ⟨rfl, trivial⟩ ?_
    try dsimp only [tup]
    have hA : useA e.kind.toNat = true := useA_om.2 (by omega)
    have hB : useB e.kind.toNat = true := useB_om.2 (by omega)
    exact ⟨_, [], hs.done, rfl, by rw [show kwF e.kind.toNat ++ [32] ++ numT e.a ++ [32] ++ hexT e.b ++ [10] = lineT e by unfold lineT optT; rw [hA, hB, h27]; simp]⟩
   ·
    refine O_nil (T_kp [1, 3, 27] rfl ?_)
    refine T_condT rfl (T_region rfl ?_)
    refine O_m rfl ?_
    refine O_y hs (Y_cat rfl rfl (by simp only [List.length_append, List.length_cons, List.length_nil]; omega) ?_)
    refine O_y hs (Y_fieldAddr FO36_2 rfl (m := 2) rfl ?_)
    refine O_y hs (Y_ld 0 Tryz.isAgg3 rfl rfl rfl ?_)
    refine O_s (S_call (H1 := []) hs rfl Tryz.func41 rfl (by kernel_rfl) (digi_int (n := e.c) (by omega) (by omega)) fun v5 G' H' _ hR hG32 hs => ?_)
    obtain ⟨rfl, rfl⟩ := hR
    replace hs : St _ _ [_] _ := hs
    replace hb := hb.mono hG32
    refine O_y hs (Y_cat rfl rfl (by simp only [List.length_append, List.length_cons, List.length_nil]; omega) ?_)
    refine O_a rfl ?_
    refine O_nil (T_kp [3] rfl ?_)
    refine T_seq (T_region rfl ?_)
    refine O_m rfl ?_
    refine O_y hs (Y_cat rfl rfl (by simp only [List.length_append, List.length_cons, List.length_nil]; omega) ?_)
    refine O_a rfl ?_
    refine O_nil (T_kp [2] rfl ?_)
    refine T_ret ?_
    refine Rt_fin (vs := [_]) Tryz.results23 rfl ⟨rfl, trivial⟩ ?_
    try dsimp only [tup]
    have hA : useA e.kind.toNat = true := useA_om.2 (by omega)
    have hB : useB e.kind.toNat = true := useB_om.2 (by omega)
    exact ⟨_, [], hs.done, rfl, by rw [show kwF e.kind.toNat ++ [32] ++ numT e.a ++ [32] ++ hexT e.b ++ [32] ++ numT e.c ++ [10] = lineT e by unfold lineT optT; rw [hA, hB, h27]; simp]⟩
  ·
   dsimp only [cmpP] at h18
   refine O_nil (T_kp [1, 3, 18] rfl ?_)
   refine T_condF rfl (T_skip ?_)
   refine T_seq (T_seq (T_region rfl ?_))
   refine O_y hs (Y_fieldAddr FO36_0 rfl (m := 0) rfl ?_)
   refine O_y hs (Y_ld 0 Tryz.isAgg3 rfl rfl rfl ?_)
   refine O_s (S_call (H1 := []) hs rfl Tryz.func24 rfl (by kernel_rfl) (hasc_ok) fun v6 G' H' _ hR hG27 hs => ?_)
   obtain ⟨rfl, rfl⟩ := hR
   replace hs : St _ _ [_] _ := hs
   replace hb := hb.mono hG27
   cases h27 : useC e.kind.toNat
   ·
    refine O_nil (T_kp [1, 3, 27] rfl ?_)
    refine T_condF rfl (T_skip ?_)
    refine T_seq (T_region rfl ?_)
    refine O_m rfl ?_
    refine O_y hs (Y_cat rfl rfl (by simp only [List.length_append, List.length_cons, List.length_nil]; omega) ?_)
    refine O_a rfl ?_
    refine O_nil (T_kp [2] rfl ?_)
    refine T_ret ?_
    refine Rt_fin (vs := [_]) Tryz.results23 rfl ⟨rfl, trivial⟩ ?_
    try dsimp only [tup]
    have hA : useA e.kind.toNat = true := useA_om.2 (by omega)
    have hB : useB e.kind.toNat = false := Bool.eq_false_iff.2 fun h => by have := useB_om.1 h; omega
    exact ⟨_, [], hs.done, rfl, by rw [show kwF e.kind.toNat ++ [32] ++ numT e.a ++ [10] = lineT e by unfold lineT optT; rw [hA, hB, h27]; simp]⟩
   ·
    refine O_nil (T_kp [1, 3, 27] rfl ?_)
    refine T_condT rfl (T_region rfl ?_)
    refine O_m rfl ?_
    refine O_y hs (Y_cat rfl rfl (by simp only [List.length_append, List.length_cons, List.length_nil]; omega) ?_)
    refine O_y hs (Y_fieldAddr FO36_2 rfl (m := 2) rfl ?_)
    refine O_y hs (Y_ld 0 Tryz.isAgg3 rfl rfl rfl ?_)
    refine O_s (S_call (H1 := []) hs rfl Tryz.func41 rfl (by kernel_rfl) (digi_int (n := e.c) (by omega) (by omega)) fun v7 G' H' _ hR hG32 hs => ?_)
    obtain ⟨rfl, rfl⟩ := hR
    replace hs : St _ _ [_] _ := hs
    replace hb := hb.mono hG32
    refine O_y hs (Y_cat rfl rfl (by simp only [List.length_append, List.length_cons, List.length_nil]; omega) ?_)
    refine O_a rfl ?_
    refine O_nil (T_kp [3] rfl ?_)
    refine T_seq (T_region rfl ?_)
    refine O_m rfl ?_
    refine O_y hs (Y_cat rfl rfl (by simp only [List.length_append, List.length_cons, List.length_nil]; omega) ?_)
    refine O_a rfl ?_
    refine O_nil (T_kp [2] rfl ?_)
    refine T_ret ?_
    refine Rt_fin (vs := [_]) Tryz.results23 rfl ⟨rfl, trivial⟩ ?_
    try dsimp only [tup]
    have hA : useA e.kind.toNat = true := useA_om.2 (by omega)
    have hB : useB e.kind.toNat = false := Bool.eq_false_iff.2 fun h => by have := useB_om.1 h; omega
    exact ⟨_, [], hs.done, rfl, by rw [show kwF e.kind.toNat ++ [32] ++ numT e.a ++ [32] ++ numT e.c ++ [10] = lineT e by unfold lineT optT; rw [hA, hB, h27]; simp]⟩
 ·
  dsimp only [cmpP] at h9
  refine O_nil (T_kp [1, 3, 9] rfl ?_)
  refine T_condF rfl (T_skip ?_)
  refine T_seq (T_seq (T_region rfl ?_))
  refine O_y hs (Y_fieldAddr FO36_0 rfl (m := 0) rfl ?_)
  refine O_y hs (Y_ld 0 Tryz.isAgg3 rfl rfl rfl ?_)
  refine O_y hs (Y_cmpS rfl rfl rfl (fun h18 => ?_) (fun h18 => ?_))
  ·
   dsimp only [cmpP] at h18
   refine O_nil (T_kp [1, 3, 18] rfl ?_)
   refine T_condT rfl (T_region rfl ?_)
   refine O_m rfl ?_
   refine O_y hs (Y_cat rfl rfl (by simp only [List.length_append, List.length_cons, List.length_nil]; omega) ?_)
   refine O_y hs (Y_fieldAddr FO36_3 rfl (m := 3) rfl ?_)
   refine O_y hs (Y_ld 0 Tryz.isAgg25 rfl rfl rfl ?_)
   refine O_s (S_call (H1 := []) hs rfl Tryz.func42 rfl (by kernel_rfl) (rhex_ok hb hl) fun v8 G' H' _ hR hG23 hs => ?_)
   obtain ⟨rfl, rfl⟩ := hR
   replace hs : St _ _ [_] _ := hs
   replace hb := hb.mono hG23
   refine O_y hs (Y_cat rfl rfl (by simp only [List.length_append, List.length_cons, List.length_nil]; omega) ?_)
   refine O_a rfl ?_
   refine O_nil (T_kp [1, 3] rfl ?_)
   refine T_seq (T_seq (T_region rfl ?_))
   refine O_y hs (Y_fieldAddr FO36_0 rfl (m := 0) rfl ?_)
   refine O_y hs (Y_ld 0 Tryz.isAgg3 rfl rfl rfl ?_)
   refine O_s (S_call (H1 := []) hs rfl Tryz.func24 rfl (by kernel_rfl) (hasc_ok) fun v9 G' H' _ hR hG27 hs => ?_)
   obtain ⟨rfl, rfl⟩ := hR
   replace hs : St _ _ [_] _ := hs
   replace hb := hb.mono hG27
   cases h27 : useC e.kind.toNat
   ·
    refine O_nil (T_kp [1, 3, 27] rfl ?_)
    refine T_condF rfl (T_skip ?_)
    refine T_seq (T_region rfl ?_)
    refine O_m rfl ?_
    refine O_y hs (Y_cat rfl rfl (by simp only [List.length_append, List.length_cons, List.length_nil]; omega) ?_)
    refine O_a rfl ?_
    refine O_nil (T_kp [2] rfl ?_)
    refine T_ret ?_
    refine Rt_fin (vs := [_]) Tryz.results23 rfl ⟨rfl, trivial⟩ ?_
    try dsimp only [tup]
    have hA : useA e.kind.toNat = false := Bool.eq_false_iff.2 fun h => by have := useA_om.1 h; omega
    have hB : useB e.kind.toNat = true := useB_om.2 (by omega)
    exact ⟨_, [], hs.done, rfl, by rw [show kwF e.kind.toNat ++ [32] ++ hexT e.b ++ [10] = lineT e by unfold lineT optT; rw [hA, hB, h27]; simp]⟩
   ·
    refine O_nil (T_kp [1, 3, 27] rfl ?_)
    refine T_condT rfl (T_region rfl ?_)
    refine O_m rfl ?_
    refine O_y hs (Y_cat rfl rfl (by simp only [List.length_append, List.length_cons, List.length_nil]; omega) ?_)
    refine O_y hs (Y_fieldAddr FO36_2 rfl (m := 2) rfl ?_)
    refine O_y hs (Y_ld 0 Tryz.isAgg3 rfl rfl rfl ?_)
    refine O_s (S_call (H1 := []) hs rfl Tryz.func41 rfl (by kernel_rfl) (digi_int (n := e.c) (by omega) (by omega)) fun v10 G' H' _ hR hG32 hs => ?_)
    obtain ⟨rfl, rfl⟩ := hR
    replace hs : St _ _ [_] _ := hs
    replace hb := hb.mono hG32
    refine O_y hs (Y_cat rfl rfl (by simp only [List.length_append, List.length_cons, List.length_nil]; omega) ?_)
    refine O_a rfl ?_
    refine O_nil (T_kp [3] rfl ?_)
    refine T_seq (T_region rfl ?_)
    refine O_m rfl ?_
    refine O_y hs (Y_cat rfl rfl (by simp only [List.length_append, List.length_cons, List.length_nil]; omega) ?_)
    refine O_a rfl ?_
    refine O_nil (T_kp [2] rfl ?_)
    refine T_ret ?_
    refine Rt_fin (vs := [_]) Tryz.results23 rfl ⟨rfl, trivial⟩ ?_
    try dsimp only [tup]
    have hA : useA e.kind.toNat = false := Bool.eq_false_iff.2 fun h => by have := useA_om.1 h; omega
    have hB : useB e.kind.toNat = true := useB_om.2 (by omega)
    exact ⟨_, [], hs.done, rfl, by rw [show kwF e.kind.toNat ++ [32] ++ hexT e.b ++ [32] ++ numT e.c ++ [10] = lineT e by unfold lineT optT; rw [hA, hB, h27]; simp]⟩
  ·
   dsimp only [cmpP] at h18
   refine O_nil (T_kp [1, 3, 18] rfl ?_)
   refine T_condF rfl (T_skip ?_)
   refine T_seq (T_seq (T_region rfl ?_))
   refine O_y hs (Y_fieldAddr FO36_0 rfl (m := 0) rfl ?_)
   refine O_y hs (Y_ld 0 Tryz.isAgg3 rfl rfl rfl ?_)
   refine O_s (S_call (H1 := []) hs rfl Tryz.func24 rfl (by kernel_rfl) (hasc_ok) fun v11 G' H' _ hR hG27 hs => ?_)
   obtain ⟨rfl, rfl⟩ := hR
   replace hs : St _ _ [_] _ := hs
   replace hb := hb.mono hG27
   cases h27 : useC e.kind.toNat
   ·
    refine O_nil (T_kp [1, 3, 27] rfl ?_)
    refine T_condF rfl (T_skip ?_)
    refine T_seq (T_region rfl ?_)
    refine O_m rfl ?_
    refine O_y hs (Y_cat rfl rfl (by simp only [List.length_append, List.length_cons, List.length_nil]; omega) ?_)
    refine O_a rfl ?_
    refine O_nil (T_kp [2] rfl ?_)
    refine T_ret ?_
    refine Rt_fin (vs := [_]) Tryz.results23 rfl ⟨rfl, trivial⟩ ?_
    try dsimp only [tup]
    have hA : useA e.kind.toNat = false := Bool.eq_false_iff.2 fun h => by have := useA_om.1 h; omega
    have hB : useB e.kind.toNat = false := Bool.eq_false_iff.2 fun h => by have := useB_om.1 h; omega
    exact ⟨_, [], hs.done, rfl, by rw [show kwF e.kind.toNat ++ [10] = lineT e by unfold lineT optT; rw [hA, hB, h27]; simp]⟩
   ·
    refine O_nil (T_kp [1, 3, 27] rfl ?_)
    refine T_condT rfl (T_region rfl ?_)
    refine O_m rfl ?_
    refine O_y hs (Y_cat rfl rfl (by simp only [List.length_append, List.length_cons, List.length_nil]; omega) ?_)
    refine O_y hs (Y_fieldAddr FO36_2 rfl (m := 2) rfl ?_)
    refine O_y hs (Y_ld 0 Tryz.isAgg3 rfl rfl rfl ?_)
    refine O_s (S_call (H1 := []) hs rfl Tryz.func41 rfl (by kernel_rfl) (digi_int (n := e.c) (by omega) (by omega)) fun v12 G' H' _ hR hG32 hs => ?_)
    obtain ⟨rfl, rfl⟩ := hR
    replace hs : St _ _ [_] _ := hs
    replace hb := hb.mono hG32
    refine O_y hs (Y_cat rfl rfl (by simp only [List.length_append, List.length_cons, List.length_nil]; omega) ?_)
    refine O_a rfl ?_
    refine O_nil (T_kp [3] rfl ?_)
    refine T_seq (T_region rfl ?_)
    refine O_m rfl ?_
    refine O_y hs (Y_cat rfl rfl (by simp only [List.length_append, List.length_cons, List.length_nil]; omega) ?_)
    refine O_a rfl ?_
    refine O_nil (T_kp [2] rfl ?_)
    refine T_ret ?_
    refine Rt_fin (vs := [_]) Tryz.results23 rfl ⟨rfl, trivial⟩ ?_
    try dsimp only [tup]
    have hA : useA e.kind.toNat = false := Bool.eq_false_iff.2 fun h => by have := useA_om.1 h; omega
    have hB : useB e.kind.toNat = false := Bool.eq_false_iff.2 fun h => by have := useB_om.1 h; omega
    exact ⟨_, [], hs.done, rfl, by rw [show kwF e.kind.toNat ++ [32] ++ numT e.c ++ [10] = lineT e by unfold lineT optT; rw [hA, hB, h27]; simp]⟩

set_option maxHeartbeats 1000000 in
set_option maxRecDepth 10000 in
theorem rfmt_ok {G : Ghost} {v : Value} {l : List Ev} (hx : Evs G v l) (hBl : ∀ e ∈ l, e.b.length ≤ 400000) (hlen : ∀ k, (∀ i (hi : i < l.length), i < k → wrE l[i] = true) → (linesT (l.take k)).length ≤ 900000) (hl : l.length ≤ 1000000000) :
  FnOk Tryz.prog 12 [v] G [] fun r _ H' => H' = [] ∧ r = .string ⟨(fmtT l).toArray⟩ := by
 obtain ⟨A, cap, rfl⟩ := LstR.slice hx
 refine FnOk.of_T [(0, _)] Tryz.func12 rfl Tryz.ntmps12 (by simp) rfl fun w0 hs => ?_
 have hx0 := hx
 refine T_seq (T_region rfl ?_)
 refine O_a rfl ?_
 refine O_nil (T_kp [0] rfl ?_)
 refine T_seq (T_region rfl ?_)
 refine O_a rfl ?_
 refine O_nil (T_kp [0, 3] rfl ?_)
 refine T_seq (T_seq (T_region rfl ?_))
 refine O_a rfl ?_
 refine O_nil (T_kp [0, 3, 4] rfl ?_)
 refine T_block (T_loop (fun m E w => ∃ (k : Nat) (G2 : Ghost), k ≤ l.length ∧ (∀ i (hi : i < l.length), i < k → wrE l[i] = true) ∧ m = l.length - k ∧ E = ⟨[], [(0, (.slice A l.length cap)), (3, .string ⟨(linesT (l.take k)).toArray⟩), (4, .int .i64 (k : Int))]⟩ ∧ St ⟨w0, G, feet []⟩ G2 [] w) (L := [(0, _), (3, _), (4, _)]) ⟨rfl, rfl, rfl, trivial⟩ (⟨0, _, by omega, fun i _ h2 => absurd h2 (by omega), rfl, rfl, hs⟩) fun m E w hI => ?_)
 obtain ⟨k, G2, hk, hgo, rfl, rfl, hs⟩ := hI
 have hx := hx0.mono hs.le
 refine T_seq (T_seq (T_region rfl ?_))
 refine O_m rfl ?_
 refine O_m rfl ?_
 refine O_y hs (Y_len Tryz.underlying22 rfl ?_)
 refine O_y hs (Y_cmpS rfl rfl rfl (fun h8 => ?_) (fun h8 => ?_))
 ·
  dsimp only [cmpP] at h8
  refine O_nil (T_kp [0, 3, 4, 8] rfl ?_)
  refine T_condT rfl (T_skip ?_)
  refine T_seq (T_block (T_seq (T_seq (T_region rfl ?_))))
  refine O_m rfl ?_
  refine O_m rfl ?_
  refine O_y hs (Y_idxS hx k Tryz.underlying22 Tryz.sizeOf36 rfl rfl rfl (by omega) fun p13 c13 hp13 hc13 hR13 => ?_)
  obtain ⟨ve, rfl, hbe⟩ := hR13
  obtain ⟨e, hel⟩ : ∃ e, e = l[k]'(by omega) := ⟨_, rfl⟩
  rw [← hel] at hp13 hbe
  refine O_y hs (Y_ldAG (vs := [.int .i64 e.kind, .int .i64 e.a, .int .i64 e.c, ve]) Tryz.isAgg36 Tryz.sizeOf36 rfl hp13 rfl ?_)
  refine O_s (S_call (H1 := []) hs rfl Tryz.func22 rfl (by kernel_rfl) (writ_ok hbe) fun v1 G' H' _ hR hG15 hs => ?_)
  obtain ⟨rfl, rfl⟩ := hR
  replace hs : St _ _ [] _ := hs
  replace hx := hx.mono hG15
  replace hbe := hbe.mono hG15
  cases h15 : wrE e
  ·
   refine O_y hs (Y_not rfl ?_)
   refine O_nil (T_kp [0, 3, 4, 16] rfl ?_)
   refine T_condT rfl (T_seq (T_region rfl ?_))
   refine O_a rfl ?_
   refine O_nil (T_kp [2] rfl ?_)
   refine T_ret ?_
   refine Rt_fin (vs := [_]) Tryz.results12 rfl ⟨rfl, trivial⟩ ?_
   try dsimp only [tup]
   exact ⟨_, [], hs.done, rfl, by rw [fmt_bad (k := k) (by omega) (by rw [← hel]; exact h15)]⟩
  ·
   refine O_y hs (Y_not rfl ?_)
   refine O_nil (T_kp [0, 3, 4, 16] rfl ?_)
   refine T_condF rfl (T_skip ?_)
   have hwk : wrE (l[k]'(by omega)) = true := by rw [← hel]; exact h15
   have hgd : ∀ i (hi : i < l.length), i < k + 1 → wrE l[i] = true := fun i hi h2 => (Nat.lt_or_ge i k).elim (hgo i hi) (fun h' => by have hik : i = k := (by omega); subst hik; exact hwk)
   have hsc := linesT_succ (l := l) (k := k) (by omega)
   rw [← hel] at hsc
   have hl1 := hlen (k + 1) hgd
   rw [hsc, List.length_append] at hl1
   refine T_region rfl ?_
   refine O_m rfl ?_
   refine O_m rfl ?_
   refine O_m rfl ?_
   refine O_y hs (Y_idxS hx k Tryz.underlying22 Tryz.sizeOf36 rfl rfl rfl (by omega) fun p20 c20 hp20 hc20 hR20 => ?_)
   obtain ⟨ve20, rfl, hbe20⟩ := hR20
   obtain ⟨e20, hel20⟩ : ∃ e, e = l[k]'(by omega) := ⟨_, rfl⟩
   rw [← hel20] at hp20 hbe20
   refine O_y hs (Y_ldAG (vs := [.int .i64 e20.kind, .int .i64 e20.a, .int .i64 e20.c, ve20]) Tryz.isAgg36 Tryz.sizeOf36 rfl hp20 rfl ?_)
   refine O_s (S_call (H1 := []) hs rfl Tryz.func23 rfl (by kernel_rfl) (line_ok hbe20 ((wr_iff _).1 (by rw [hel20, ← hel]; exact h15)) (by rw [hel20]; exact hBl _ (List.getElem_mem _))) fun v2 G' H' _ hR hG22 hs => ?_)
   obtain ⟨rfl, rfl⟩ := hR
   replace hs : St _ _ [] _ := hs
   replace hx := hx.mono hG22
   replace hbe := hbe.mono hG22
   replace hbe20 := hbe20.mono hG22
   refine O_y hs (Y_cat rfl rfl (by rw [show e20 = e from hel20.trans hel.symm]; omega) ?_)
   refine O_a rfl ?_
   refine O_nil (T_kp [0, 3, 4] rfl ?_)
   refine T_region rfl ?_
   refine O_m rfl ?_
   refine O_y hs (Y_add (c := ((k + 1 : Nat) : Int)) rfl rfl (by omega) (by omega) ?_)
   refine O_a rfl ?_
   have hee2 : linesT (l.take k) ++ lineT e20 = linesT (l.take (k + 1)) := by rw [hsc, hel, hel20]
   refine O_nil ⟨_, ?_, [(0, _), (3, _), (4, _)], ⟨rfl, rfl, rfl, trivial⟩, ⟨k + 1, _, by omega, hgd, rfl, by rw [← hee2], hs⟩⟩
   omega
 ·
  dsimp only [cmpP] at h8
  refine O_nil (T_kp [0, 3, 4, 8] rfl ?_)
  refine T_condF rfl (T_exit ?_)
  refine T_seq (T_region rfl ?_)
  refine O_m rfl ?_
  refine O_a rfl ?_
  refine O_nil (T_kp [2] rfl ?_)
  refine T_ret ?_
  refine Rt_fin (vs := [_]) Tryz.results12 rfl ⟨rfl, trivial⟩ ?_
  try dsimp only [tup]
  have hkl : l.take k = l := List.take_of_length_le (by omega)
  exact ⟨_, [], hs.done, rfl, by rw [fmt_good (fun i hi => hgo i hi (by omega)), hkl]⟩

end Go.Proofs.YtcnljflihhggiaaGreatDoor
