import Derived.Test.YtkmgbcjfidpmgaaGreatDoorExWalks10
import Derived.Test.YtkmgbcjfidpmgaaGreatDoorProg
import Derived.Test.YtkmgbcjfidpmgaaGreatDoorSame
import Derived.Test.YtkmgbcjfidpmgaaGreatDoorExThin
import Derived.Test.YtkmgbcjfidpmgaaGreatDoorShelf
namespace Go.Proofs.YtkmgbcjfidpmgaaGreatDoor
open Go Go.Ex Go.RowKit


def bC (n : Nat) : UInt8 := UInt8.ofNat n
theorem bC_int {n : Nat} (h : n < 256) : IntKind.u8.wrap ((n : Nat) : Int) = ((bC n).toNat : Int) := by unfold bC; rw [IntKind.wrap_u8, UInt8.toNat_ofNat']; omega
def rgF (c : List Nat) (lo j : Nat) : List Nat := (bytesFrom lo j).foldl addF c
theorem rg_succ (c : List Nat) (lo j : Nat) : rgF c lo (j + 1) = addF (rgF c lo j) (bC (lo + j)) := by unfold rgF bytesFrom; rw [List.range_succ, List.map_append, List.foldl_append]; rfl
theorem rg_len {c : List Nat} (h : c.length = 4) (lo : Nat) : ∀ j, (rgF c lo j).length = 4
  | 0 => h
  | j + 1 => by rw [rg_succ, addF_len]; exact rg_len h lo j
theorem rg_union {c : List Nat} (hc : ClsOk c) (lo hi : UInt8) : rgF c lo.toNat (hi.toNat + 1 - lo.toNat) = unionF c (rangeF lo hi) := by
  refine cls_ext (fold_ok _ hc) (union_ok' hc (range_ok' lo hi)) fun z => ?_
  unfold rgF rangeF
  rw [has_fold _ hc, has_union hc (ofF_ok _), has_of]
def ClI (s : List UInt8) (q f : Nat) (rl : Except Er (List Nat × Nat)) (c : List Nat) (at_ : Nat) (er wh : Int) : Prop := (er = 0 ∧ wh = 0 ∧ classL s f c at_ = some rl ∧ ClsOk c ∧ at_ ≤ s.length ∧ q ≤ at_) ∨ (¬ er = 0 ∧ f = 0 ∧ c.length = 4 ∧ at_ ≤ s.length ∧ q ≤ at_ ∧ ∃ w : Nat, wh = (w : Int) ∧ rl = .error (er, w))
theorem ClI.len {s : List UInt8} {q f : Nat} {rl : Except Er (List Nat × Nat)} {c : List Nat} {at_ : Nat} {er wh : Int} (h : ClI s q f rl c at_ er wh) : c.length = 4 ∧ at_ ≤ s.length ∧ q ≤ at_ := by
  rcases h with ⟨_, _, _, h, h2, h3⟩ | ⟨_, _, h, h2, h3, _⟩
  · exact ⟨h.1, h2, h3⟩
  · exact ⟨h, h2, h3⟩
def ClO (s : List UInt8) (q : Nat) (r0 : Except Er (List Nat × Nat)) (c : List Nat) (at_ : Nat) (er wh : Int) : Prop := c.length = 4 ∧ at_ ≤ s.length ∧ q ≤ at_ ∧ ((er = 0 ∧ wh = 0 ∧ r0 = .ok (c, at_) ∧ ClsOk c) ∨ (¬ er = 0 ∧ ∃ w : Nat, wh = (w : Int) ∧ r0 = .error (er, w)))
theorem ClO.not {s : List UInt8} {q : Nat} {rl : Except Er (List Nat × Nat)} {c : List Nat} {at_ : Nat} {er wh : Int} (h : ClO s q rl c at_ er wh) : ClO s q (notR rl) (notF c) at_ er wh := by
  obtain ⟨h1, h2, h3, h⟩ := h
  refine ⟨notF_len h1, h2, h3, ?_⟩
  rcases h with ⟨a, b, rfl, d⟩ | ⟨a, w, b, rfl⟩
  · exact .inl ⟨a, b, rfl, not_ok' d⟩
  · exact .inr ⟨a, w, b, rfl⟩


set_option maxHeartbeats 4000000 in
set_option maxRecDepth 10000 in
theorem rcls_ok {G : Ghost} {p : Nat} {s : List UInt8} {q : Nat} {v : Value} (hq : q ≤ s.length) (hl : s.length ≤ 2000000) {f : Nat} {r0 : Except Er (List Nat × Nat)} (hr : classP s f q = some r0) :
  FnOk Tryz.prog 114 [.pointer (some ⟨p, 0, none⟩)] G [.blk p 61 [.string ⟨s.toArray⟩, .int .i64 (q : Int), v, .int .i64 0, .int .i64 0]] fun r _ H' => ∃ (c : List Nat) (at_ : Nat) (er wh : Int), H' = [.blk p 61 [.string ⟨s.toArray⟩, .int .i64 (at_ : Int), v, .int .i64 er, .int .i64 wh]] ∧ r = ClsV c ∧ ClO s q r0 c at_ er wh := by
 have hsz := bsz s
 have hn4 : noC.length = 4 := rfl
 have ha4 : allC.length = 4 := rfl
 refine FnOk.of_T [(0, _)] Tryz.func114 rfl Tryz.ntmps114 (by simp) rfl fun w0 hs => ?_
 refine T_seq (T_region rfl ?_)
 refine O_s (S_alloc hs Tryz.zeroValue40 (cs := (List.map u64V [0, 0, 0, 0])) rfl fun b2 _ hs => ?_)
 refine O_nil (T_kp [0, 2] rfl ?_)
 refine T_seq (T_region rfl ?_)
 refine O_m rfl ?_
 cases hk12 : isB s q 94
 ·
  have hs := hs.f1
  refine O_s (S_call (H1 := [_]) hs rfl Tryz.func52 rfl (by kernel_rfl) (take_0f (q := q) (by omega) hl hk12) fun v1 G' H' _ hR hG12 hs => ?_)
  obtain ⟨rfl, rfl⟩ := hR
  replace hs : St _ _ [_, _] _ := hs
  refine O_a rfl ?_
  refine O_nil (T_kp [0, 2, 3] rfl ?_)
  obtain ⟨rl, hrl, hr0⟩ := classP_f hk12 hr
  refine T_seq (T_region rfl ?_)
  refine O_y hs (Y_buildA Tryz.underlying40 Tryz.sizeOf38 Tryz.zeroValue40 rfl rfl (cs := [_, _, _, _]) rfl ?_)
  refine O_s (S_alloc hs Tryz.zeroValue40 (cs := (List.map u64V [0, 0, 0, 0])) rfl fun b4 _ hs => ?_)
  refine O_n (S_stW hs Tryz.sizeOf40 rfl rfl (vs := (List.map u64V noC)) (by first | omega | (simp; omega) | simp) (by first | omega | (simp; omega) | simp) (u64_all _) fun _ hs => ?_)
  refine O_nil (T_kp [0, 2, 3, 4] rfl ?_)
  have hs := hs.f2
  have hs := hs.f2
  have hs := hs.f2
  refine T_seq (T_block (T_loop (fun m E w => ∃ (f' : Nat) (c : List Nat) (at_ : Nat) (er wh : Int) (G' : Ghost), ClI s q f' rl c at_ er wh ∧ m = f' ∧ E = ⟨[], [(0, .pointer (some ⟨p, 0, none⟩)), (2, .pointer (some ⟨b2, 0, none⟩)), (3, .bool false), (4, .pointer (some ⟨b4, 0, none⟩))]⟩ ∧ St ⟨w0, G, feet [.blk p 61 [.string ⟨s.toArray⟩, .int .i64 (q : Int), v, .int .i64 0, .int .i64 0]]⟩ G' [.blk b4 40 (List.map u64V c), .blk p 61 [.string ⟨s.toArray⟩, .int .i64 (at_ : Int), v, .int .i64 er, .int .i64 wh], .blk b2 40 (List.map u64V [0, 0, 0, 0])] w) (L := [(0, _), (2, _), (3, _), (4, _)]) ⟨rfl, rfl, rfl, rfl, trivial⟩ (⟨f, noC, _, 0, 0, _, .inl ⟨rfl, rfl, hrl, noC_ok, by omega, by omega⟩, rfl, rfl, hs⟩) fun m E w hI => ?_))
  obtain ⟨f', c, at_, er, wh, G', hI, rfl, rfl, hs⟩ := hI
  have hcl4 := hI.len
  have hc4 := hcl4.1
  refine T_seq (T_seq (T_region rfl ?_))
  refine O_m rfl ?_
  refine O_y hs (Y_nil rfl ?_)
  refine O_y hs (Y_fieldAddr FO61_3 rfl (m := 3) rfl ?_)
  refine O_y hs (Y_ld 1 Tryz.isAgg25 rfl rfl rfl ?_)
  refine O_y hs (Y_cmpS rfl rfl rfl (fun h18 => ?_) (fun h18 => ?_))
  ·
   dsimp only [cmpP] at h18
   obtain ⟨rfl, rfl, hcl, hc, hat1, hat2⟩ := hI.resolve_right (fun h => h.1 h18)
   obtain ⟨f1, rfl⟩ := cl_pos hcl
   refine O_m rfl ?_
   refine O_yy 19 hs rfl rfl (Y_move rfl ?_)
   cases hk21 : isB s at_ 93
   ·
    have hs := hs.f1
    refine O_yes 19 rfl rfl (S_call (H1 := [_]) hs rfl Tryz.func52 rfl (by kernel_rfl) (take_0f (q := at_) (by omega) hl hk21) fun v2 G' H' _ hR hG21 hs => ?_)
    obtain ⟨rfl, rfl⟩ := hR
    replace hs : St _ _ [_, _, _] _ := hs
    refine O_yy 19 hs rfl rfl (Y_not rfl ?_)
    refine O_y hs (Y_pickT rfl rfl ?_)
    refine O_nil (T_kp [0, 2, 3, 4, 23] rfl ?_)
    refine T_condT rfl (T_skip ?_)
    refine T_block (T_seq (T_region rfl ?_))
    refine O_m rfl ?_
    refine O_s (S_call (H1 := [_]) hs rfl Tryz.func115 rfl (by kernel_rfl) (rchar_ok (q := at_) (by omega) hl) fun v3 G' H' _ hR hG25 hs => ?_)
    obtain ⟨y25, at25, er25, wh25, rfl, rfl, ho25⟩ := hR
    replace hs : St _ _ [_, _, _] _ := hs
    have hy25 := y25.toNat_lt
    rcases ho25 with ⟨rfl, rfl, hc25⟩ | ⟨w25, hc25, rfl, he25, hq25, hz25⟩
    ·
     have hb25 := charP_ok hc25
     refine O_a rfl ?_
     refine O_nil (T_kp [0, 2, 3, 4, 5] rfl ?_)
     refine T_seq (T_region rfl ?_)
     refine O_m rfl ?_
     refine O_a rfl ?_
     refine O_nil (T_kp [0, 2, 3, 4, 5, 6] rfl ?_)
     refine T_seq (T_seq (T_region rfl ?_))
     refine O_m rfl ?_
     cases hk28 : isB s at25 45
     ·
      refine O_s (S_call (H1 := [_]) hs rfl Tryz.func52 rfl (by kernel_rfl) (take_0f (q := at25) (by omega) hl hk28) fun v4 G' H' _ hR hG28 hs => ?_)
      obtain ⟨rfl, rfl⟩ := hR
      replace hs : St _ _ [_, _, _] _ := hs
      refine O_nil (T_kp [0, 2, 3, 4, 5, 6, 28] rfl ?_)
      refine T_condF rfl (T_skip ?_)
      refine T_seq (T_region rfl ?_)
      refine O_m rfl ?_
      refine O_y hs (Y_conv Tryz.underlying5 Tryz.underlying3 (c := (y25.toNat : Int)) rfl (by rw [IntKind.wrap_i64]; have := y25.toNat_lt; omega) ?_)
      refine O_a rfl ?_
      refine O_nil (T_kp [0, 2, 3, 4, 6, 8] rfl ?_)
      have hs := hs.f2
      have hs := hs.f1
      have hs := hs.f2
      refine T_block (T_loop (fun m E w => ∃ (j : Nat) (G' : Ghost), (j = 0 ∨ y25.toNat + j ≤ y25.toNat + 1) ∧ m = y25.toNat + 1 - (y25.toNat + j) ∧ E = ⟨[], [(0, .pointer (some ⟨p, 0, none⟩)), (2, .pointer (some ⟨b2, 0, none⟩)), (3, .bool false), (4, .pointer (some ⟨b4, 0, none⟩)), (6, .int .u8 (y25.toNat : Int)), (8, .int .i64 ((y25.toNat + j : Nat) : Int))]⟩ ∧ St ⟨w0, G, feet [.blk p 61 [.string ⟨s.toArray⟩, .int .i64 (q : Int), v, .int .i64 0, .int .i64 0]]⟩ G' [.blk b4 40 (List.map u64V (rgF c y25.toNat j)), .blk p 61 [.string ⟨s.toArray⟩, .int .i64 (at25 : Int), v, .int .i64 0, .int .i64 0], .blk b2 40 (List.map u64V [0, 0, 0, 0])] w) (L := [(0, _), (2, _), (3, _), (4, _), (6, _), (8, _)]) ⟨rfl, rfl, rfl, rfl, rfl, rfl, trivial⟩ (⟨0, _, .inl rfl, rfl, rfl, hs⟩) fun m E w hI => ?_)
      obtain ⟨j, G', hj, rfl, rfl, hs⟩ := hI
      have hrg := rg_len hc4 y25.toNat j
      refine T_seq (T_seq (T_region rfl ?_))
      refine O_m rfl ?_
      refine O_m rfl ?_
      refine O_y hs (Y_conv Tryz.underlying5 Tryz.underlying3 (c := (y25.toNat : Int)) rfl (by rw [IntKind.wrap_i64]; have := y25.toNat_lt; omega) ?_)
      refine O_y hs (Y_cmpS rfl rfl rfl (fun h46 => ?_) (fun h46 => ?_))
      ·
       dsimp only [cmpP] at h46
       refine O_nil (T_kp [0, 2, 3, 4, 6, 8, 46] rfl ?_)
       refine T_condT rfl (T_skip ?_)
       refine T_seq (T_block (T_region rfl ?_))
       refine O_y hs (Y_ldW 0 Tryz.isAgg40 Tryz.sizeOf40 rfl rfl (by first | omega | (simp; omega) | simp) ?_)
       refine O_m rfl ?_
       refine O_y hs (Y_conv Tryz.underlying3 Tryz.underlying5 (c := ((bC (y25.toNat + j)).toNat : Int)) rfl (bC_int (by have := y25.toNat_lt; omega)) ?_)
       refine O_s (S_call (H1 := []) hs rfl Tryz.func30 rfl (by kernel_rfl) (radd_ok (c := rgF c y25.toNat j) (x := bC (y25.toNat + j)) hrg) fun v5 G' H' _ hR hG52 hs => ?_)
       obtain ⟨rfl, rfl⟩ := hR
       replace hs : St _ _ [_, _, _] _ := hs
       have hrg2 : (addF (rgF c y25.toNat j) (bC (y25.toNat + j))).length = 4 := by rw [addF_len]; exact hrg
       refine O_n (S_stW hs Tryz.sizeOf40 rfl rfl (vs := (List.map u64V (addF (rgF c y25.toNat j) (bC (y25.toNat + j))))) (by first | omega | (simp; omega) | simp) (by first | omega | (simp; omega) | simp) (u64_all _) fun _ hs => ?_)
       refine O_nil (T_kp [0, 2, 3, 4, 6, 8] rfl ?_)
       refine T_region rfl ?_
       refine O_m rfl ?_
       refine O_y hs (Y_add (c := ((y25.toNat + (j + 1) : Nat) : Int)) rfl rfl (by omega) (by omega) ?_)
       refine O_a rfl ?_
       have hs := hs.f2
       have hs := hs.f2
       have hs := hs.f2
       refine O_nil ⟨_, ?_, [(0, _), (2, _), (3, _), (4, _), (6, _), (8, _)], ⟨rfl, rfl, rfl, rfl, rfl, rfl, trivial⟩, ⟨j + 1, _, .inr (by omega), rfl, rfl, by rw [rg_succ]; exact hs⟩⟩
       omega
      ·
       dsimp only [cmpP] at h46
       refine O_nil (T_kp [0, 2, 3, 4, 6, 8, 46] rfl ?_)
       refine T_condF rfl (T_exit ?_)
       have hs := hs.f2
       have hs := hs.f2
       have hs := hs.f2
       have hjf : j = y25.toNat + 1 - y25.toNat := by omega
       subst hjf
       rw [rg_union hc] at hs
       have hun := union_ok' hc (range_ok' y25 y25)
       refine ⟨_, ?_, [(0, _), (2, _), (3, _), (4, _)], ⟨rfl, rfl, rfl, rfl, trivial⟩, ⟨f1, _, _, _, _, _, .inl ⟨rfl, rfl, cl_one hcl hk21 hc25 hk28, hun, by omega, by omega⟩, rfl, rfl, hs⟩⟩
       omega
     ·
      have hlt28 := isB_lt hk28
      refine O_s (S_call (H1 := [_]) hs rfl Tryz.func52 rfl (by kernel_rfl) (take_0t (q := at25) (by omega) hl hk28) fun v6 G' H' _ hR hG28 hs => ?_)
      obtain ⟨rfl, rfl⟩ := hR
      replace hs : St _ _ [_, _, _] _ := hs
      refine O_nil (T_kp [0, 2, 3, 4, 5, 6, 28] rfl ?_)
      refine T_condT rfl (T_seq (T_region rfl ?_))
      refine O_m rfl ?_
      refine O_y hs (Y_nil rfl ?_)
      refine O_y hs (Y_fieldAddr FO61_1 rfl (m := 1) rfl ?_)
      refine O_y hs (Y_ld 0 Tryz.isAgg3 rfl rfl rfl ?_)
      refine O_a rfl ?_
      refine O_nil (T_kp [0, 2, 3, 4, 5, 7] rfl ?_)
      refine T_seq (T_region rfl ?_)
      refine O_m rfl ?_
      refine O_s (S_call (H1 := [_]) hs rfl Tryz.func115 rfl (by kernel_rfl) (rchar_ok (q := (at25 + 1 : Nat)) (by omega) hl) fun v7 G' H' _ hR hG34 hs => ?_)
      obtain ⟨y34, at34, er34, wh34, rfl, rfl, ho34⟩ := hR
      replace hs : St _ _ [_, _, _] _ := hs
      have hy34 := y34.toNat_lt
      rcases ho34 with ⟨rfl, rfl, hc34⟩ | ⟨w34, hc34, rfl, he34, hq34, hz34⟩
      ·
       have hb34 := charP_ok hc34
       refine O_a rfl ?_
       refine O_nil (T_kp [0, 2, 3, 4, 5, 6, 7] rfl ?_)
       refine T_seq (T_region rfl ?_)
       refine O_m rfl ?_
       refine O_m rfl ?_
       refine O_y hs (Y_cmpS rfl rfl rfl (fun h37 => ?_) (fun h37 => ?_))
       ·
        dsimp only [cmpP] at h37
        refine O_nil (T_kp [0, 2, 3, 4, 5, 6, 7, 37] rfl ?_)
        refine T_condT rfl (T_region rfl ?_)
        refine O_m rfl ?_
        refine O_m rfl ?_
        have hef : ¬ (20 : Int) = 0 := by decide
        refine O_s (S_call (H1 := [_]) hs rfl Tryz.func36 rfl (by kernel_rfl) (fail_0 (q := at34) (c := 20) (w := ((at25 + 1 : Nat) : Int)) (by omega) hl) fun v8 G' H' _ hR hG40 hs => ?_)
        obtain rfl := hR
        replace hs : St _ _ [_, _, _] _ := hs
        refine O_nil (T_kp [0, 2, 3, 4, 5, 6] rfl ?_)
        refine T_seq (T_region rfl ?_)
        refine O_m rfl ?_
        refine O_y hs (Y_conv Tryz.underlying5 Tryz.underlying3 (c := (y25.toNat : Int)) rfl (by rw [IntKind.wrap_i64]; have := y25.toNat_lt; omega) ?_)
        refine O_a rfl ?_
        refine O_nil (T_kp [0, 2, 3, 4, 6, 8] rfl ?_)
        have hs := hs.f2
        have hs := hs.f1
        have hs := hs.f2
        refine T_block (T_loop (fun m E w => ∃ (j : Nat) (G' : Ghost), (j = 0 ∨ y25.toNat + j ≤ y34.toNat + 1) ∧ m = y34.toNat + 1 - (y25.toNat + j) ∧ E = ⟨[], [(0, .pointer (some ⟨p, 0, none⟩)), (2, .pointer (some ⟨b2, 0, none⟩)), (3, .bool false), (4, .pointer (some ⟨b4, 0, none⟩)), (6, .int .u8 (y34.toNat : Int)), (8, .int .i64 ((y25.toNat + j : Nat) : Int))]⟩ ∧ St ⟨w0, G, feet [.blk p 61 [.string ⟨s.toArray⟩, .int .i64 (q : Int), v, .int .i64 0, .int .i64 0]]⟩ G' [.blk b4 40 (List.map u64V (rgF c y25.toNat j)), .blk p 61 [.string ⟨s.toArray⟩, .int .i64 (at34 : Int), v, .int .i64 20, .int .i64 ((at25 + 1 : Nat) : Int)], .blk b2 40 (List.map u64V [0, 0, 0, 0])] w) (L := [(0, _), (2, _), (3, _), (4, _), (6, _), (8, _)]) ⟨rfl, rfl, rfl, rfl, rfl, rfl, trivial⟩ (⟨0, _, .inl rfl, rfl, rfl, hs⟩) fun m E w hI => ?_)
        obtain ⟨j, G', hj, rfl, rfl, hs⟩ := hI
        have hrg := rg_len hc4 y25.toNat j
        refine T_seq (T_seq (T_region rfl ?_))
        refine O_m rfl ?_
        refine O_m rfl ?_
        refine O_y hs (Y_conv Tryz.underlying5 Tryz.underlying3 (c := (y34.toNat : Int)) rfl (by rw [IntKind.wrap_i64]; have := y34.toNat_lt; omega) ?_)
        refine O_y hs (Y_cmpS rfl rfl rfl (fun h46 => ?_) (fun h46 => ?_))
        ·
         dsimp only [cmpP] at h46
         refine O_nil (T_kp [0, 2, 3, 4, 6, 8, 46] rfl ?_)
         refine T_condT rfl (T_skip ?_)
         refine T_seq (T_block (T_region rfl ?_))
         refine O_y hs (Y_ldW 0 Tryz.isAgg40 Tryz.sizeOf40 rfl rfl (by first | omega | (simp; omega) | simp) ?_)
         refine O_m rfl ?_
         refine O_y hs (Y_conv Tryz.underlying3 Tryz.underlying5 (c := ((bC (y25.toNat + j)).toNat : Int)) rfl (bC_int (by have := y34.toNat_lt; omega)) ?_)
         refine O_s (S_call (H1 := []) hs rfl Tryz.func30 rfl (by kernel_rfl) (radd_ok (c := rgF c y25.toNat j) (x := bC (y25.toNat + j)) hrg) fun v9 G' H' _ hR hG52 hs => ?_)
         obtain ⟨rfl, rfl⟩ := hR
         replace hs : St _ _ [_, _, _] _ := hs
         have hrg2 : (addF (rgF c y25.toNat j) (bC (y25.toNat + j))).length = 4 := by rw [addF_len]; exact hrg
         refine O_n (S_stW hs Tryz.sizeOf40 rfl rfl (vs := (List.map u64V (addF (rgF c y25.toNat j) (bC (y25.toNat + j))))) (by first | omega | (simp; omega) | simp) (by first | omega | (simp; omega) | simp) (u64_all _) fun _ hs => ?_)
         refine O_nil (T_kp [0, 2, 3, 4, 6, 8] rfl ?_)
         refine T_region rfl ?_
         refine O_m rfl ?_
         refine O_y hs (Y_add (c := ((y25.toNat + (j + 1) : Nat) : Int)) rfl rfl (by omega) (by omega) ?_)
         refine O_a rfl ?_
         have hs := hs.f2
         have hs := hs.f2
         have hs := hs.f2
         refine O_nil ⟨_, ?_, [(0, _), (2, _), (3, _), (4, _), (6, _), (8, _)], ⟨rfl, rfl, rfl, rfl, rfl, rfl, trivial⟩, ⟨j + 1, _, .inr (by omega), rfl, rfl, by rw [rg_succ]; exact hs⟩⟩
         omega
        ·
         dsimp only [cmpP] at h46
         refine O_nil (T_kp [0, 2, 3, 4, 6, 8, 46] rfl ?_)
         refine T_condF rfl (T_exit ?_)
         have hs := hs.f2
         have hs := hs.f2
         have hs := hs.f2
         refine ⟨_, ?_, [(0, _), (2, _), (3, _), (4, _)], ⟨rfl, rfl, rfl, rfl, trivial⟩, ⟨0, _, _, _, _, _, .inr ⟨hef, rfl, rg_len hc4 _ _, by omega, by omega, _, rfl, cl_bad hcl hk21 hc25 hk28 hc34 (by omega)⟩, rfl, rfl, hs⟩⟩
         omega
       ·
        dsimp only [cmpP] at h37
        refine O_nil (T_kp [0, 2, 3, 4, 5, 6, 7, 37] rfl ?_)
        refine T_condF rfl (T_skip ?_)
        refine T_seq (T_region rfl ?_)
        refine O_m rfl ?_
        refine O_y hs (Y_conv Tryz.underlying5 Tryz.underlying3 (c := (y25.toNat : Int)) rfl (by rw [IntKind.wrap_i64]; have := y25.toNat_lt; omega) ?_)
        refine O_a rfl ?_
        refine O_nil (T_kp [0, 2, 3, 4, 6, 8] rfl ?_)
        have hs := hs.f2
        have hs := hs.f1
        have hs := hs.f2
        refine T_block (T_loop (fun m E w => ∃ (j : Nat) (G' : Ghost), (j = 0 ∨ y25.toNat + j ≤ y34.toNat + 1) ∧ m = y34.toNat + 1 - (y25.toNat + j) ∧ E = ⟨[], [(0, .pointer (some ⟨p, 0, none⟩)), (2, .pointer (some ⟨b2, 0, none⟩)), (3, .bool false), (4, .pointer (some ⟨b4, 0, none⟩)), (6, .int .u8 (y34.toNat : Int)), (8, .int .i64 ((y25.toNat + j : Nat) : Int))]⟩ ∧ St ⟨w0, G, feet [.blk p 61 [.string ⟨s.toArray⟩, .int .i64 (q : Int), v, .int .i64 0, .int .i64 0]]⟩ G' [.blk b4 40 (List.map u64V (rgF c y25.toNat j)), .blk p 61 [.string ⟨s.toArray⟩, .int .i64 (at34 : Int), v, .int .i64 0, .int .i64 0], .blk b2 40 (List.map u64V [0, 0, 0, 0])] w) (L := [(0, _), (2, _), (3, _), (4, _), (6, _), (8, _)]) ⟨rfl, rfl, rfl, rfl, rfl, rfl, trivial⟩ (⟨0, _, .inl rfl, rfl, rfl, hs⟩) fun m E w hI => ?_)
        obtain ⟨j, G', hj, rfl, rfl, hs⟩ := hI
        have hrg := rg_len hc4 y25.toNat j
        refine T_seq (T_seq (T_region rfl ?_))
        refine O_m rfl ?_
        refine O_m rfl ?_
        refine O_y hs (Y_conv Tryz.underlying5 Tryz.underlying3 (c := (y34.toNat : Int)) rfl (by rw [IntKind.wrap_i64]; have := y34.toNat_lt; omega) ?_)
        refine O_y hs (Y_cmpS rfl rfl rfl (fun h46 => ?_) (fun h46 => ?_))
        ·
         dsimp only [cmpP] at h46
         refine O_nil (T_kp [0, 2, 3, 4, 6, 8, 46] rfl ?_)
         refine T_condT rfl (T_skip ?_)
         refine T_seq (T_block (T_region rfl ?_))
         refine O_y hs (Y_ldW 0 Tryz.isAgg40 Tryz.sizeOf40 rfl rfl (by first | omega | (simp; omega) | simp) ?_)
         refine O_m rfl ?_
         refine O_y hs (Y_conv Tryz.underlying3 Tryz.underlying5 (c := ((bC (y25.toNat + j)).toNat : Int)) rfl (bC_int (by have := y34.toNat_lt; omega)) ?_)
         refine O_s (S_call (H1 := []) hs rfl Tryz.func30 rfl (by kernel_rfl) (radd_ok (c := rgF c y25.toNat j) (x := bC (y25.toNat + j)) hrg) fun v10 G' H' _ hR hG52 hs => ?_)
         obtain ⟨rfl, rfl⟩ := hR
         replace hs : St _ _ [_, _, _] _ := hs
         have hrg2 : (addF (rgF c y25.toNat j) (bC (y25.toNat + j))).length = 4 := by rw [addF_len]; exact hrg
         refine O_n (S_stW hs Tryz.sizeOf40 rfl rfl (vs := (List.map u64V (addF (rgF c y25.toNat j) (bC (y25.toNat + j))))) (by first | omega | (simp; omega) | simp) (by first | omega | (simp; omega) | simp) (u64_all _) fun _ hs => ?_)
         refine O_nil (T_kp [0, 2, 3, 4, 6, 8] rfl ?_)
         refine T_region rfl ?_
         refine O_m rfl ?_
         refine O_y hs (Y_add (c := ((y25.toNat + (j + 1) : Nat) : Int)) rfl rfl (by omega) (by omega) ?_)
         refine O_a rfl ?_
         have hs := hs.f2
         have hs := hs.f2
         have hs := hs.f2
         refine O_nil ⟨_, ?_, [(0, _), (2, _), (3, _), (4, _), (6, _), (8, _)], ⟨rfl, rfl, rfl, rfl, rfl, rfl, trivial⟩, ⟨j + 1, _, .inr (by omega), rfl, rfl, by rw [rg_succ]; exact hs⟩⟩
         omega
        ·
         dsimp only [cmpP] at h46
         refine O_nil (T_kp [0, 2, 3, 4, 6, 8, 46] rfl ?_)
         refine T_condF rfl (T_exit ?_)
         have hs := hs.f2
         have hs := hs.f2
         have hs := hs.f2
         have hjf : j = y34.toNat + 1 - y25.toNat := by omega
         subst hjf
         rw [rg_union hc] at hs
         have hun := union_ok' hc (range_ok' y25 y34)
         refine ⟨_, ?_, [(0, _), (2, _), (3, _), (4, _)], ⟨rfl, rfl, rfl, rfl, trivial⟩, ⟨f1, _, _, _, _, _, .inl ⟨rfl, rfl, cl_two hcl hk21 hc25 hk28 hc34 h37, hun, by omega, by omega⟩, rfl, rfl, hs⟩⟩
         omega
      ·
       refine O_a rfl ?_
       refine O_nil (T_kp [0, 2, 3, 4, 5, 6, 7] rfl ?_)
       refine T_seq (T_region rfl ?_)
       refine O_m rfl ?_
       refine O_m rfl ?_
       refine O_y hs (Y_cmpS rfl rfl rfl (fun h37 => ?_) (fun h37 => ?_))
       ·
        dsimp only [cmpP] at h37
        refine O_nil (T_kp [0, 2, 3, 4, 5, 6, 7, 37] rfl ?_)
        refine T_condT rfl (T_region rfl ?_)
        refine O_m rfl ?_
        refine O_m rfl ?_
        refine O_s (S_call (H1 := [_]) hs rfl Tryz.func36 rfl (by kernel_rfl) (fail_e (q := at34) (by omega) hl he34) fun v11 G' H' _ hR hG40 hs => ?_)
        obtain rfl := hR
        replace hs : St _ _ [_, _, _] _ := hs
        refine O_nil (T_kp [0, 2, 3, 4, 5, 6] rfl ?_)
        refine T_seq (T_region rfl ?_)
        refine O_m rfl ?_
        refine O_y hs (Y_conv Tryz.underlying5 Tryz.underlying3 (c := (y25.toNat : Int)) rfl (by rw [IntKind.wrap_i64]; have := y25.toNat_lt; omega) ?_)
        refine O_a rfl ?_
        refine O_nil (T_kp [0, 2, 3, 4, 6, 8] rfl ?_)
        have hs := hs.f2
        have hs := hs.f1
        have hs := hs.f2
        refine T_block (T_loop (fun m E w => ∃ (j : Nat) (G' : Ghost), (j = 0 ∨ y25.toNat + j ≤ y34.toNat + 1) ∧ m = y34.toNat + 1 - (y25.toNat + j) ∧ E = ⟨[], [(0, .pointer (some ⟨p, 0, none⟩)), (2, .pointer (some ⟨b2, 0, none⟩)), (3, .bool false), (4, .pointer (some ⟨b4, 0, none⟩)), (6, .int .u8 (y34.toNat : Int)), (8, .int .i64 ((y25.toNat + j : Nat) : Int))]⟩ ∧ St ⟨w0, G, feet [.blk p 61 [.string ⟨s.toArray⟩, .int .i64 (q : Int), v, .int .i64 0, .int .i64 0]]⟩ G' [.blk b4 40 (List.map u64V (rgF c y25.toNat j)), .blk p 61 [.string ⟨s.toArray⟩, .int .i64 (at34 : Int), v, .int .i64 er34, .int .i64 (w34 : Int)], .blk b2 40 (List.map u64V [0, 0, 0, 0])] w) (L := [(0, _), (2, _), (3, _), (4, _), (6, _), (8, _)]) ⟨rfl, rfl, rfl, rfl, rfl, rfl, trivial⟩ (⟨0, _, .inl rfl, rfl, rfl, hs⟩) fun m E w hI => ?_)
        obtain ⟨j, G', hj, rfl, rfl, hs⟩ := hI
        have hrg := rg_len hc4 y25.toNat j
        refine T_seq (T_seq (T_region rfl ?_))
        refine O_m rfl ?_
        refine O_m rfl ?_
        refine O_y hs (Y_conv Tryz.underlying5 Tryz.underlying3 (c := (y34.toNat : Int)) rfl (by rw [IntKind.wrap_i64]; have := y34.toNat_lt; omega) ?_)
        refine O_y hs (Y_cmpS rfl rfl rfl (fun h46 => ?_) (fun h46 => ?_))
        ·
         dsimp only [cmpP] at h46
         refine O_nil (T_kp [0, 2, 3, 4, 6, 8, 46] rfl ?_)
         refine T_condT rfl (T_skip ?_)
         refine T_seq (T_block (T_region rfl ?_))
         refine O_y hs (Y_ldW 0 Tryz.isAgg40 Tryz.sizeOf40 rfl rfl (by first | omega | (simp; omega) | simp) ?_)
         refine O_m rfl ?_
         refine O_y hs (Y_conv Tryz.underlying3 Tryz.underlying5 (c := ((bC (y25.toNat + j)).toNat : Int)) rfl (bC_int (by have := y34.toNat_lt; omega)) ?_)
         refine O_s (S_call (H1 := []) hs rfl Tryz.func30 rfl (by kernel_rfl) (radd_ok (c := rgF c y25.toNat j) (x := bC (y25.toNat + j)) hrg) fun v12 G' H' _ hR hG52 hs => ?_)
         obtain ⟨rfl, rfl⟩ := hR
         replace hs : St _ _ [_, _, _] _ := hs
         have hrg2 : (addF (rgF c y25.toNat j) (bC (y25.toNat + j))).length = 4 := by rw [addF_len]; exact hrg
         refine O_n (S_stW hs Tryz.sizeOf40 rfl rfl (vs := (List.map u64V (addF (rgF c y25.toNat j) (bC (y25.toNat + j))))) (by first | omega | (simp; omega) | simp) (by first | omega | (simp; omega) | simp) (u64_all _) fun _ hs => ?_)
         refine O_nil (T_kp [0, 2, 3, 4, 6, 8] rfl ?_)
         refine T_region rfl ?_
         refine O_m rfl ?_
         refine O_y hs (Y_add (c := ((y25.toNat + (j + 1) : Nat) : Int)) rfl rfl (by omega) (by omega) ?_)
         refine O_a rfl ?_
         have hs := hs.f2
         have hs := hs.f2
         have hs := hs.f2
         refine O_nil ⟨_, ?_, [(0, _), (2, _), (3, _), (4, _), (6, _), (8, _)], ⟨rfl, rfl, rfl, rfl, rfl, rfl, trivial⟩, ⟨j + 1, _, .inr (by omega), rfl, rfl, by rw [rg_succ]; exact hs⟩⟩
         omega
        ·
         dsimp only [cmpP] at h46
         refine O_nil (T_kp [0, 2, 3, 4, 6, 8, 46] rfl ?_)
         refine T_condF rfl (T_exit ?_)
         have hs := hs.f2
         have hs := hs.f2
         have hs := hs.f2
         refine ⟨_, ?_, [(0, _), (2, _), (3, _), (4, _)], ⟨rfl, rfl, rfl, rfl, trivial⟩, ⟨0, _, _, _, _, _, .inr ⟨he34, rfl, rg_len hc4 _ _, by omega, by omega, _, rfl, cl_err2 hcl hk21 hc25 hk28 hc34⟩, rfl, rfl, hs⟩⟩
         omega
       ·
        dsimp only [cmpP] at h37
        refine O_nil (T_kp [0, 2, 3, 4, 5, 6, 7, 37] rfl ?_)
        refine T_condF rfl (T_skip ?_)
        refine T_seq (T_region rfl ?_)
        refine O_m rfl ?_
        refine O_y hs (Y_conv Tryz.underlying5 Tryz.underlying3 (c := (y25.toNat : Int)) rfl (by rw [IntKind.wrap_i64]; have := y25.toNat_lt; omega) ?_)
        refine O_a rfl ?_
        refine O_nil (T_kp [0, 2, 3, 4, 6, 8] rfl ?_)
        have hs := hs.f2
        have hs := hs.f1
        have hs := hs.f2
        refine T_block (T_loop (fun m E w => ∃ (j : Nat) (G' : Ghost), (j = 0 ∨ y25.toNat + j ≤ y34.toNat + 1) ∧ m = y34.toNat + 1 - (y25.toNat + j) ∧ E = ⟨[], [(0, .pointer (some ⟨p, 0, none⟩)), (2, .pointer (some ⟨b2, 0, none⟩)), (3, .bool false), (4, .pointer (some ⟨b4, 0, none⟩)), (6, .int .u8 (y34.toNat : Int)), (8, .int .i64 ((y25.toNat + j : Nat) : Int))]⟩ ∧ St ⟨w0, G, feet [.blk p 61 [.string ⟨s.toArray⟩, .int .i64 (q : Int), v, .int .i64 0, .int .i64 0]]⟩ G' [.blk b4 40 (List.map u64V (rgF c y25.toNat j)), .blk p 61 [.string ⟨s.toArray⟩, .int .i64 (at34 : Int), v, .int .i64 er34, .int .i64 (w34 : Int)], .blk b2 40 (List.map u64V [0, 0, 0, 0])] w) (L := [(0, _), (2, _), (3, _), (4, _), (6, _), (8, _)]) ⟨rfl, rfl, rfl, rfl, rfl, rfl, trivial⟩ (⟨0, _, .inl rfl, rfl, rfl, hs⟩) fun m E w hI => ?_)
        obtain ⟨j, G', hj, rfl, rfl, hs⟩ := hI
        have hrg := rg_len hc4 y25.toNat j
        refine T_seq (T_seq (T_region rfl ?_))
        refine O_m rfl ?_
        refine O_m rfl ?_
        refine O_y hs (Y_conv Tryz.underlying5 Tryz.underlying3 (c := (y34.toNat : Int)) rfl (by rw [IntKind.wrap_i64]; have := y34.toNat_lt; omega) ?_)
        refine O_y hs (Y_cmpS rfl rfl rfl (fun h46 => ?_) (fun h46 => ?_))
        ·
         dsimp only [cmpP] at h46
         refine O_nil (T_kp [0, 2, 3, 4, 6, 8, 46] rfl ?_)
         refine T_condT rfl (T_skip ?_)
         refine T_seq (T_block (T_region rfl ?_))
         refine O_y hs (Y_ldW 0 Tryz.isAgg40 Tryz.sizeOf40 rfl rfl (by first | omega | (simp; omega) | simp) ?_)
         refine O_m rfl ?_
         refine O_y hs (Y_conv Tryz.underlying3 Tryz.underlying5 (c := ((bC (y25.toNat + j)).toNat : Int)) rfl (bC_int (by have := y34.toNat_lt; omega)) ?_)
         refine O_s (S_call (H1 := []) hs rfl Tryz.func30 rfl (by kernel_rfl) (radd_ok (c := rgF c y25.toNat j) (x := bC (y25.toNat + j)) hrg) fun v13 G' H' _ hR hG52 hs => ?_)
         obtain ⟨rfl, rfl⟩ := hR
         replace hs : St _ _ [_, _, _] _ := hs
         have hrg2 : (addF (rgF c y25.toNat j) (bC (y25.toNat + j))).length = 4 := by rw [addF_len]; exact hrg
         refine O_n (S_stW hs Tryz.sizeOf40 rfl rfl (vs := (List.map u64V (addF (rgF c y25.toNat j) (bC (y25.toNat + j))))) (by first | omega | (simp; omega) | simp) (by first | omega | (simp; omega) | simp) (u64_all _) fun _ hs => ?_)
         refine O_nil (T_kp [0, 2, 3, 4, 6, 8] rfl ?_)
         refine T_region rfl ?_
         refine O_m rfl ?_
         refine O_y hs (Y_add (c := ((y25.toNat + (j + 1) : Nat) : Int)) rfl rfl (by omega) (by omega) ?_)
         refine O_a rfl ?_
         have hs := hs.f2
         have hs := hs.f2
         have hs := hs.f2
         refine O_nil ⟨_, ?_, [(0, _), (2, _), (3, _), (4, _), (6, _), (8, _)], ⟨rfl, rfl, rfl, rfl, rfl, rfl, trivial⟩, ⟨j + 1, _, .inr (by omega), rfl, rfl, by rw [rg_succ]; exact hs⟩⟩
         omega
        ·
         dsimp only [cmpP] at h46
         refine O_nil (T_kp [0, 2, 3, 4, 6, 8, 46] rfl ?_)
         refine T_condF rfl (T_exit ?_)
         have hs := hs.f2
         have hs := hs.f2
         have hs := hs.f2
         refine ⟨_, ?_, [(0, _), (2, _), (3, _), (4, _)], ⟨rfl, rfl, rfl, rfl, trivial⟩, ⟨0, _, _, _, _, _, .inr ⟨he34, rfl, rg_len hc4 _ _, by omega, by omega, _, rfl, cl_err2 hcl hk21 hc25 hk28 hc34⟩, rfl, rfl, hs⟩⟩
         omega
    ·
     refine O_a rfl ?_
     refine O_nil (T_kp [0, 2, 3, 4, 5] rfl ?_)
     refine T_seq (T_region rfl ?_)
     refine O_m rfl ?_
     refine O_a rfl ?_
     refine O_nil (T_kp [0, 2, 3, 4, 5, 6] rfl ?_)
     refine T_seq (T_seq (T_region rfl ?_))
     refine O_m rfl ?_
     refine O_s (S_call (H1 := [_]) hs rfl Tryz.func52 rfl (by kernel_rfl) (take_e (q := at25) (b := 45) (by omega) hl he25) fun v14 G' H' _ hR hG28 hs => ?_)
     obtain ⟨rfl, rfl⟩ := hR
     replace hs : St _ _ [_, _, _] _ := hs
     refine O_nil (T_kp [0, 2, 3, 4, 5, 6, 28] rfl ?_)
     refine T_condF rfl (T_skip ?_)
     refine T_seq (T_region rfl ?_)
     refine O_m rfl ?_
     refine O_y hs (Y_conv Tryz.underlying5 Tryz.underlying3 (c := (y25.toNat : Int)) rfl (by rw [IntKind.wrap_i64]; have := y25.toNat_lt; omega) ?_)
     refine O_a rfl ?_
     refine O_nil (T_kp [0, 2, 3, 4, 6, 8] rfl ?_)
     have hs := hs.f2
     have hs := hs.f1
     have hs := hs.f2
     refine T_block (T_loop (fun m E w => ∃ (j : Nat) (G' : Ghost), (j = 0 ∨ y25.toNat + j ≤ y25.toNat + 1) ∧ m = y25.toNat + 1 - (y25.toNat + j) ∧ E = ⟨[], [(0, .pointer (some ⟨p, 0, none⟩)), (2, .pointer (some ⟨b2, 0, none⟩)), (3, .bool false), (4, .pointer (some ⟨b4, 0, none⟩)), (6, .int .u8 (y25.toNat : Int)), (8, .int .i64 ((y25.toNat + j : Nat) : Int))]⟩ ∧ St ⟨w0, G, feet [.blk p 61 [.string ⟨s.toArray⟩, .int .i64 (q : Int), v, .int .i64 0, .int .i64 0]]⟩ G' [.blk b4 40 (List.map u64V (rgF c y25.toNat j)), .blk p 61 [.string ⟨s.toArray⟩, .int .i64 (at25 : Int), v, .int .i64 er25, .int .i64 (w25 : Int)], .blk b2 40 (List.map u64V [0, 0, 0, 0])] w) (L := [(0, _), (2, _), (3, _), (4, _), (6, _), (8, _)]) ⟨rfl, rfl, rfl, rfl, rfl, rfl, trivial⟩ (⟨0, _, .inl rfl, rfl, rfl, hs⟩) fun m E w hI => ?_)
     obtain ⟨j, G', hj, rfl, rfl, hs⟩ := hI
     have hrg := rg_len hc4 y25.toNat j
     refine T_seq (T_seq (T_region rfl ?_))
     refine O_m rfl ?_
     refine O_m rfl ?_
     refine O_y hs (Y_conv Tryz.underlying5 Tryz.underlying3 (c := (y25.toNat : Int)) rfl (by rw [IntKind.wrap_i64]; have := y25.toNat_lt; omega) ?_)
     refine O_y hs (Y_cmpS rfl rfl rfl (fun h46 => ?_) (fun h46 => ?_))
     ·
      dsimp only [cmpP] at h46
      refine O_nil (T_kp [0, 2, 3, 4, 6, 8, 46] rfl ?_)
      refine T_condT rfl (T_skip ?_)
      refine T_seq (T_block (T_region rfl ?_))
      refine O_y hs (Y_ldW 0 Tryz.isAgg40 Tryz.sizeOf40 rfl rfl (by first | omega | (simp; omega) | simp) ?_)
      refine O_m rfl ?_
      refine O_y hs (Y_conv Tryz.underlying3 Tryz.underlying5 (c := ((bC (y25.toNat + j)).toNat : Int)) rfl (bC_int (by have := y25.toNat_lt; omega)) ?_)
      refine O_s (S_call (H1 := []) hs rfl Tryz.func30 rfl (by kernel_rfl) (radd_ok (c := rgF c y25.toNat j) (x := bC (y25.toNat + j)) hrg) fun v15 G' H' _ hR hG52 hs => ?_)
      obtain ⟨rfl, rfl⟩ := hR
      replace hs : St _ _ [_, _, _] _ := hs
      have hrg2 : (addF (rgF c y25.toNat j) (bC (y25.toNat + j))).length = 4 := by rw [addF_len]; exact hrg
      refine O_n (S_stW hs Tryz.sizeOf40 rfl rfl (vs := (List.map u64V (addF (rgF c y25.toNat j) (bC (y25.toNat + j))))) (by first | omega | (simp; omega) | simp) (by first | omega | (simp; omega) | simp) (u64_all _) fun _ hs => ?_)
      refine O_nil (T_kp [0, 2, 3, 4, 6, 8] rfl ?_)
      refine T_region rfl ?_
      refine O_m rfl ?_
      refine O_y hs (Y_add (c := ((y25.toNat + (j + 1) : Nat) : Int)) rfl rfl (by omega) (by omega) ?_)
      refine O_a rfl ?_
      have hs := hs.f2
      have hs := hs.f2
      have hs := hs.f2
      refine O_nil ⟨_, ?_, [(0, _), (2, _), (3, _), (4, _), (6, _), (8, _)], ⟨rfl, rfl, rfl, rfl, rfl, rfl, trivial⟩, ⟨j + 1, _, .inr (by omega), rfl, rfl, by rw [rg_succ]; exact hs⟩⟩
      omega
     ·
      dsimp only [cmpP] at h46
      refine O_nil (T_kp [0, 2, 3, 4, 6, 8, 46] rfl ?_)
      refine T_condF rfl (T_exit ?_)
      have hs := hs.f2
      have hs := hs.f2
      have hs := hs.f2
      refine ⟨_, ?_, [(0, _), (2, _), (3, _), (4, _)], ⟨rfl, rfl, rfl, rfl, trivial⟩, ⟨0, _, _, _, _, _, .inr ⟨he25, rfl, rg_len hc4 _ _, by omega, by omega, _, rfl, cl_err hcl hk21 hc25⟩, rfl, rfl, hs⟩⟩
      omega
   ·
    have hlt21 := isB_lt hk21
    have hs := hs.f1
    refine O_yes 19 rfl rfl (S_call (H1 := [_]) hs rfl Tryz.func52 rfl (by kernel_rfl) (take_0t (q := at_) (by omega) hl hk21) fun v16 G' H' _ hR hG21 hs => ?_)
    obtain ⟨rfl, rfl⟩ := hR
    replace hs : St _ _ [_, _, _] _ := hs
    refine O_yy 19 hs rfl rfl (Y_not rfl ?_)
    refine O_y hs (Y_pickT rfl rfl ?_)
    refine O_nil (T_kp [0, 2, 3, 4, 23] rfl ?_)
    refine T_condF rfl (T_exit ?_)
    have hout : ClO s q rl c (at_ + 1 : Nat) 0 0 := ⟨hc.1, by omega, by omega, .inl ⟨rfl, rfl, cl_end hcl hk21, hc⟩⟩
    refine T_seq (T_seq (T_region rfl ?_))
    refine O_m rfl ?_
    refine O_nil (T_kp [2, 4, 53] rfl ?_)
    refine T_condF rfl (T_skip ?_)
    refine T_seq (T_region rfl ?_)
    refine O_y hs (Y_ldW 1 Tryz.isAgg40 Tryz.sizeOf40 rfl rfl (by first | omega | (simp; omega) | simp) ?_)
    have hs := hs.f2
    refine O_n (S_stW hs Tryz.sizeOf40 rfl rfl (vs := (List.map u64V c)) (by first | omega | (simp; omega) | simp) (by first | omega | (simp; omega) | simp) (u64_all _) fun _ hs => ?_)
    refine O_nil (T_kp [2] rfl ?_)
    refine T_ret ?_
    have hs := hs.f1
    have hr := hs
    refine Rt_fin (vs := [_]) Tryz.results114 rfl ⟨ResOk_blk 1 hr Tryz.isAgg40 Tryz.sizeOf40 rfl (cs := (List.map u64V c)) rfl (by first | omega | (simp; omega) | simp), trivial⟩ ?_
    try dsimp only [tup]
    exact ⟨_, _, hs.weak hs.le (Ghost.le.refl _) (List.sublist_append_left [_] _), c, _, _, _, rfl, rfl, by rw [hr0]; exact hout⟩
  ·
   dsimp only [cmpP] at h18
   refine O_m rfl ?_
   refine O_no 19 rfl rfl ?_
   refine O_no 19 rfl rfl ?_
   refine O_no 19 rfl rfl ?_
   refine O_y hs (Y_pickF rfl rfl ?_)
   refine O_nil (T_kp [0, 2, 3, 4, 23] rfl ?_)
   refine T_condF rfl (T_exit ?_)
   have hout : ClO s q rl c at_ er wh := ⟨hc4, by omega, by omega, .inr ⟨h18, by rcases hI with h | h; exact absurd h.1 h18; exact h.2.2.2.2.2⟩⟩
   refine T_seq (T_seq (T_region rfl ?_))
   refine O_m rfl ?_
   refine O_nil (T_kp [2, 4, 53] rfl ?_)
   refine T_condF rfl (T_skip ?_)
   refine T_seq (T_region rfl ?_)
   refine O_y hs (Y_ldW 0 Tryz.isAgg40 Tryz.sizeOf40 rfl rfl (by first | omega | (simp; omega) | simp) ?_)
   have hs := hs.f2
   refine O_n (S_stW hs Tryz.sizeOf40 rfl rfl (vs := (List.map u64V c)) (by first | omega | (simp; omega) | simp) (by first | omega | (simp; omega) | simp) (u64_all _) fun _ hs => ?_)
   refine O_nil (T_kp [2] rfl ?_)
   refine T_ret ?_
   have hs := hs.f2
   have hr := hs
   refine Rt_fin (vs := [_]) Tryz.results114 rfl ⟨ResOk_blk 1 hr Tryz.isAgg40 Tryz.sizeOf40 rfl (cs := (List.map u64V c)) rfl (by first | omega | (simp; omega) | simp), trivial⟩ ?_
   try dsimp only [tup]
   exact ⟨_, _, hs.weak hs.le (Ghost.le.refl _) (List.sublist_append_left [_] _), c, _, _, _, rfl, rfl, by rw [hr0]; exact hout⟩
 ·
  have hlt12 := isB_lt hk12
  have hs := hs.f1
  refine O_s (S_call (H1 := [_]) hs rfl Tryz.func52 rfl (by kernel_rfl) (take_0t (q := q) (by omega) hl hk12) fun v17 G' H' _ hR hG12 hs => ?_)
  obtain ⟨rfl, rfl⟩ := hR
  replace hs : St _ _ [_, _] _ := hs
  refine O_a rfl ?_
  refine O_nil (T_kp [0, 2, 3] rfl ?_)
  obtain ⟨rl, hrl, hr0⟩ := classP_t hk12 hr
  refine T_seq (T_region rfl ?_)
  refine O_y hs (Y_buildA Tryz.underlying40 Tryz.sizeOf38 Tryz.zeroValue40 rfl rfl (cs := [_, _, _, _]) rfl ?_)
  refine O_s (S_alloc hs Tryz.zeroValue40 (cs := (List.map u64V [0, 0, 0, 0])) rfl fun b4 _ hs => ?_)
  refine O_n (S_stW hs Tryz.sizeOf40 rfl rfl (vs := (List.map u64V noC)) (by first | omega | (simp; omega) | simp) (by first | omega | (simp; omega) | simp) (u64_all _) fun _ hs => ?_)
  refine O_nil (T_kp [0, 2, 3, 4] rfl ?_)
  have hs := hs.f2
  have hs := hs.f2
  have hs := hs.f2
  refine T_seq (T_block (T_loop (fun m E w => ∃ (f' : Nat) (c : List Nat) (at_ : Nat) (er wh : Int) (G' : Ghost), ClI s q f' rl c at_ er wh ∧ m = f' ∧ E = ⟨[], [(0, .pointer (some ⟨p, 0, none⟩)), (2, .pointer (some ⟨b2, 0, none⟩)), (3, .bool true), (4, .pointer (some ⟨b4, 0, none⟩))]⟩ ∧ St ⟨w0, G, feet [.blk p 61 [.string ⟨s.toArray⟩, .int .i64 (q : Int), v, .int .i64 0, .int .i64 0]]⟩ G' [.blk b4 40 (List.map u64V c), .blk p 61 [.string ⟨s.toArray⟩, .int .i64 (at_ : Int), v, .int .i64 er, .int .i64 wh], .blk b2 40 (List.map u64V [0, 0, 0, 0])] w) (L := [(0, _), (2, _), (3, _), (4, _)]) ⟨rfl, rfl, rfl, rfl, trivial⟩ (⟨f, noC, _, 0, 0, _, .inl ⟨rfl, rfl, hrl, noC_ok, by omega, by omega⟩, rfl, rfl, hs⟩) fun m E w hI => ?_))
  obtain ⟨f', c, at_, er, wh, G', hI, rfl, rfl, hs⟩ := hI
  have hcl4 := hI.len
  have hc4 := hcl4.1
  refine T_seq (T_seq (T_region rfl ?_))
  refine O_m rfl ?_
  refine O_y hs (Y_nil rfl ?_)
  refine O_y hs (Y_fieldAddr FO61_3 rfl (m := 3) rfl ?_)
  refine O_y hs (Y_ld 1 Tryz.isAgg25 rfl rfl rfl ?_)
  refine O_y hs (Y_cmpS rfl rfl rfl (fun h18 => ?_) (fun h18 => ?_))
  ·
   dsimp only [cmpP] at h18
   obtain ⟨rfl, rfl, hcl, hc, hat1, hat2⟩ := hI.resolve_right (fun h => h.1 h18)
   obtain ⟨f1, rfl⟩ := cl_pos hcl
   refine O_m rfl ?_
   refine O_yy 19 hs rfl rfl (Y_move rfl ?_)
   cases hk21 : isB s at_ 93
   ·
    have hs := hs.f1
    refine O_yes 19 rfl rfl (S_call (H1 := [_]) hs rfl Tryz.func52 rfl (by kernel_rfl) (take_0f (q := at_) (by omega) hl hk21) fun v18 G' H' _ hR hG21 hs => ?_)
    obtain ⟨rfl, rfl⟩ := hR
    replace hs : St _ _ [_, _, _] _ := hs
    refine O_yy 19 hs rfl rfl (Y_not rfl ?_)
    refine O_y hs (Y_pickT rfl rfl ?_)
    refine O_nil (T_kp [0, 2, 3, 4, 23] rfl ?_)
    refine T_condT rfl (T_skip ?_)
    refine T_block (T_seq (T_region rfl ?_))
    refine O_m rfl ?_
    refine O_s (S_call (H1 := [_]) hs rfl Tryz.func115 rfl (by kernel_rfl) (rchar_ok (q := at_) (by omega) hl) fun v19 G' H' _ hR hG25 hs => ?_)
    obtain ⟨y25, at25, er25, wh25, rfl, rfl, ho25⟩ := hR
    replace hs : St _ _ [_, _, _] _ := hs
    have hy25 := y25.toNat_lt
    rcases ho25 with ⟨rfl, rfl, hc25⟩ | ⟨w25, hc25, rfl, he25, hq25, hz25⟩
    ·
     have hb25 := charP_ok hc25
     refine O_a rfl ?_
     refine O_nil (T_kp [0, 2, 3, 4, 5] rfl ?_)
     refine T_seq (T_region rfl ?_)
     refine O_m rfl ?_
     refine O_a rfl ?_
     refine O_nil (T_kp [0, 2, 3, 4, 5, 6] rfl ?_)
     refine T_seq (T_seq (T_region rfl ?_))
     refine O_m rfl ?_
     cases hk28 : isB s at25 45
     ·
      refine O_s (S_call (H1 := [_]) hs rfl Tryz.func52 rfl (by kernel_rfl) (take_0f (q := at25) (by omega) hl hk28) fun v20 G' H' _ hR hG28 hs => ?_)
      obtain ⟨rfl, rfl⟩ := hR
      replace hs : St _ _ [_, _, _] _ := hs
      refine O_nil (T_kp [0, 2, 3, 4, 5, 6, 28] rfl ?_)
      refine T_condF rfl (T_skip ?_)
      refine T_seq (T_region rfl ?_)
      refine O_m rfl ?_
      refine O_y hs (Y_conv Tryz.underlying5 Tryz.underlying3 (c := (y25.toNat : Int)) rfl (by rw [IntKind.wrap_i64]; have := y25.toNat_lt; omega) ?_)
      refine O_a rfl ?_
      refine O_nil (T_kp [0, 2, 3, 4, 6, 8] rfl ?_)
      have hs := hs.f2
      have hs := hs.f1
      have hs := hs.f2
      refine T_block (T_loop (fun m E w => ∃ (j : Nat) (G' : Ghost), (j = 0 ∨ y25.toNat + j ≤ y25.toNat + 1) ∧ m = y25.toNat + 1 - (y25.toNat + j) ∧ E = ⟨[], [(0, .pointer (some ⟨p, 0, none⟩)), (2, .pointer (some ⟨b2, 0, none⟩)), (3, .bool true), (4, .pointer (some ⟨b4, 0, none⟩)), (6, .int .u8 (y25.toNat : Int)), (8, .int .i64 ((y25.toNat + j : Nat) : Int))]⟩ ∧ St ⟨w0, G, feet [.blk p 61 [.string ⟨s.toArray⟩, .int .i64 (q : Int), v, .int .i64 0, .int .i64 0]]⟩ G' [.blk b4 40 (List.map u64V (rgF c y25.toNat j)), .blk p 61 [.string ⟨s.toArray⟩, .int .i64 (at25 : Int), v, .int .i64 0, .int .i64 0], .blk b2 40 (List.map u64V [0, 0, 0, 0])] w) (L := [(0, _), (2, _), (3, _), (4, _), (6, _), (8, _)]) ⟨rfl, rfl, rfl, rfl, rfl, rfl, trivial⟩ (⟨0, _, .inl rfl, rfl, rfl, hs⟩) fun m E w hI => ?_)
      obtain ⟨j, G', hj, rfl, rfl, hs⟩ := hI
      have hrg := rg_len hc4 y25.toNat j
      refine T_seq (T_seq (T_region rfl ?_))
      refine O_m rfl ?_
      refine O_m rfl ?_
      refine O_y hs (Y_conv Tryz.underlying5 Tryz.underlying3 (c := (y25.toNat : Int)) rfl (by rw [IntKind.wrap_i64]; have := y25.toNat_lt; omega) ?_)
      refine O_y hs (Y_cmpS rfl rfl rfl (fun h46 => ?_) (fun h46 => ?_))
      ·
       dsimp only [cmpP] at h46
       refine O_nil (T_kp [0, 2, 3, 4, 6, 8, 46] rfl ?_)
       refine T_condT rfl (T_skip ?_)
       refine T_seq (T_block (T_region rfl ?_))
       refine O_y hs (Y_ldW 0 Tryz.isAgg40 Tryz.sizeOf40 rfl rfl (by first | omega | (simp; omega) | simp) ?_)
       refine O_m rfl ?_
       refine O_y hs (Y_conv Tryz.underlying3 Tryz.underlying5 (c := ((bC (y25.toNat + j)).toNat : Int)) rfl (bC_int (by have := y25.toNat_lt; omega)) ?_)
       refine O_s (S_call (H1 := []) hs rfl Tryz.func30 rfl (by kernel_rfl) (radd_ok (c := rgF c y25.toNat j) (x := bC (y25.toNat + j)) hrg) fun v21 G' H' _ hR hG52 hs => ?_)
       obtain ⟨rfl, rfl⟩ := hR
       replace hs : St _ _ [_, _, _] _ := hs
       have hrg2 : (addF (rgF c y25.toNat j) (bC (y25.toNat + j))).length = 4 := by rw [addF_len]; exact hrg
       refine O_n (S_stW hs Tryz.sizeOf40 rfl rfl (vs := (List.map u64V (addF (rgF c y25.toNat j) (bC (y25.toNat + j))))) (by first | omega | (simp; omega) | simp) (by first | omega | (simp; omega) | simp) (u64_all _) fun _ hs => ?_)
       refine O_nil (T_kp [0, 2, 3, 4, 6, 8] rfl ?_)
       refine T_region rfl ?_
       refine O_m rfl ?_
       refine O_y hs (Y_add (c := ((y25.toNat + (j + 1) : Nat) : Int)) rfl rfl (by omega) (by omega) ?_)
       refine O_a rfl ?_
       have hs := hs.f2
       have hs := hs.f2
       have hs := hs.f2
       refine O_nil ⟨_, ?_, [(0, _), (2, _), (3, _), (4, _), (6, _), (8, _)], ⟨rfl, rfl, rfl, rfl, rfl, rfl, trivial⟩, ⟨j + 1, _, .inr (by omega), rfl, rfl, by rw [rg_succ]; exact hs⟩⟩
       omega
      ·
       dsimp only [cmpP] at h46
       refine O_nil (T_kp [0, 2, 3, 4, 6, 8, 46] rfl ?_)
       refine T_condF rfl (T_exit ?_)
       have hs := hs.f2
       have hs := hs.f2
       have hs := hs.f2
       have hjf : j = y25.toNat + 1 - y25.toNat := by omega
       subst hjf
       rw [rg_union hc] at hs
       have hun := union_ok' hc (range_ok' y25 y25)
       refine ⟨_, ?_, [(0, _), (2, _), (3, _), (4, _)], ⟨rfl, rfl, rfl, rfl, trivial⟩, ⟨f1, _, _, _, _, _, .inl ⟨rfl, rfl, cl_one hcl hk21 hc25 hk28, hun, by omega, by omega⟩, rfl, rfl, hs⟩⟩
       omega
     ·
      have hlt28 := isB_lt hk28
      refine O_s (S_call (H1 := [_]) hs rfl Tryz.func52 rfl (by kernel_rfl) (take_0t (q := at25) (by omega) hl hk28) fun v22 G' H' _ hR hG28 hs => ?_)
      obtain ⟨rfl, rfl⟩ := hR
      replace hs : St _ _ [_, _, _] _ := hs
      refine O_nil (T_kp [0, 2, 3, 4, 5, 6, 28] rfl ?_)
      refine T_condT rfl (T_seq (T_region rfl ?_))
      refine O_m rfl ?_
      refine O_y hs (Y_nil rfl ?_)
      refine O_y hs (Y_fieldAddr FO61_1 rfl (m := 1) rfl ?_)
      refine O_y hs (Y_ld 0 Tryz.isAgg3 rfl rfl rfl ?_)
      refine O_a rfl ?_
      refine O_nil (T_kp [0, 2, 3, 4, 5, 7] rfl ?_)
      refine T_seq (T_region rfl ?_)
      refine O_m rfl ?_
      refine O_s (S_call (H1 := [_]) hs rfl Tryz.func115 rfl (by kernel_rfl) (rchar_ok (q := (at25 + 1 : Nat)) (by omega) hl) fun v23 G' H' _ hR hG34 hs => ?_)
      obtain ⟨y34, at34, er34, wh34, rfl, rfl, ho34⟩ := hR
      replace hs : St _ _ [_, _, _] _ := hs
      have hy34 := y34.toNat_lt
      rcases ho34 with ⟨rfl, rfl, hc34⟩ | ⟨w34, hc34, rfl, he34, hq34, hz34⟩
      ·
       have hb34 := charP_ok hc34
       refine O_a rfl ?_
       refine O_nil (T_kp [0, 2, 3, 4, 5, 6, 7] rfl ?_)
       refine T_seq (T_region rfl ?_)
       refine O_m rfl ?_
       refine O_m rfl ?_
       refine O_y hs (Y_cmpS rfl rfl rfl (fun h37 => ?_) (fun h37 => ?_))
       ·
        dsimp only [cmpP] at h37
        refine O_nil (T_kp [0, 2, 3, 4, 5, 6, 7, 37] rfl ?_)
        refine T_condT rfl (T_region rfl ?_)
        refine O_m rfl ?_
        refine O_m rfl ?_
        have hef : ¬ (20 : Int) = 0 := by decide
        refine O_s (S_call (H1 := [_]) hs rfl Tryz.func36 rfl (by kernel_rfl) (fail_0 (q := at34) (c := 20) (w := ((at25 + 1 : Nat) : Int)) (by omega) hl) fun v24 G' H' _ hR hG40 hs => ?_)
        obtain rfl := hR
        replace hs : St _ _ [_, _, _] _ := hs
        refine O_nil (T_kp [0, 2, 3, 4, 5, 6] rfl ?_)
        refine T_seq (T_region rfl ?_)
        refine O_m rfl ?_
        refine O_y hs (Y_conv Tryz.underlying5 Tryz.underlying3 (c := (y25.toNat : Int)) rfl (by rw [IntKind.wrap_i64]; have := y25.toNat_lt; omega) ?_)
        refine O_a rfl ?_
        refine O_nil (T_kp [0, 2, 3, 4, 6, 8] rfl ?_)
        have hs := hs.f2
        have hs := hs.f1
        have hs := hs.f2
        refine T_block (T_loop (fun m E w => ∃ (j : Nat) (G' : Ghost), (j = 0 ∨ y25.toNat + j ≤ y34.toNat + 1) ∧ m = y34.toNat + 1 - (y25.toNat + j) ∧ E = ⟨[], [(0, .pointer (some ⟨p, 0, none⟩)), (2, .pointer (some ⟨b2, 0, none⟩)), (3, .bool true), (4, .pointer (some ⟨b4, 0, none⟩)), (6, .int .u8 (y34.toNat : Int)), (8, .int .i64 ((y25.toNat + j : Nat) : Int))]⟩ ∧ St ⟨w0, G, feet [.blk p 61 [.string ⟨s.toArray⟩, .int .i64 (q : Int), v, .int .i64 0, .int .i64 0]]⟩ G' [.blk b4 40 (List.map u64V (rgF c y25.toNat j)), .blk p 61 [.string ⟨s.toArray⟩, .int .i64 (at34 : Int), v, .int .i64 20, .int .i64 ((at25 + 1 : Nat) : Int)], .blk b2 40 (List.map u64V [0, 0, 0, 0])] w) (L := [(0, _), (2, _), (3, _), (4, _), (6, _), (8, _)]) ⟨rfl, rfl, rfl, rfl, rfl, rfl, trivial⟩ (⟨0, _, .inl rfl, rfl, rfl, hs⟩) fun m E w hI => ?_)
        obtain ⟨j, G', hj, rfl, rfl, hs⟩ := hI
        have hrg := rg_len hc4 y25.toNat j
        refine T_seq (T_seq (T_region rfl ?_))
        refine O_m rfl ?_
        refine O_m rfl ?_
        refine O_y hs (Y_conv Tryz.underlying5 Tryz.underlying3 (c := (y34.toNat : Int)) rfl (by rw [IntKind.wrap_i64]; have := y34.toNat_lt; omega) ?_)
        refine O_y hs (Y_cmpS rfl rfl rfl (fun h46 => ?_) (fun h46 => ?_))
        ·
         dsimp only [cmpP] at h46
         refine O_nil (T_kp [0, 2, 3, 4, 6, 8, 46] rfl ?_)
         refine T_condT rfl (T_skip ?_)
         refine T_seq (T_block (T_region rfl ?_))
         refine O_y hs (Y_ldW 0 Tryz.isAgg40 Tryz.sizeOf40 rfl rfl (by first | omega | (simp; omega) | simp) ?_)
         refine O_m rfl ?_
         refine O_y hs (Y_conv Tryz.underlying3 Tryz.underlying5 (c := ((bC (y25.toNat + j)).toNat : Int)) rfl (bC_int (by have := y34.toNat_lt; omega)) ?_)
         refine O_s (S_call (H1 := []) hs rfl Tryz.func30 rfl (by kernel_rfl) (radd_ok (c := rgF c y25.toNat j) (x := bC (y25.toNat + j)) hrg) fun v25 G' H' _ hR hG52 hs => ?_)
         obtain ⟨rfl, rfl⟩ := hR
         replace hs : St _ _ [_, _, _] _ := hs
         have hrg2 : (addF (rgF c y25.toNat j) (bC (y25.toNat + j))).length = 4 := by rw [addF_len]; exact hrg
         refine O_n (S_stW hs Tryz.sizeOf40 rfl rfl (vs := (List.map u64V (addF (rgF c y25.toNat j) (bC (y25.toNat + j))))) (by first | omega | (simp; omega) | simp) (by first | omega | (simp; omega) | simp) (u64_all _) fun _ hs => ?_)
         refine O_nil (T_kp [0, 2, 3, 4, 6, 8] rfl ?_)
         refine T_region rfl ?_
         refine O_m rfl ?_
         refine O_y hs (Y_add (c := ((y25.toNat + (j + 1) : Nat) : Int)) rfl rfl (by omega) (by omega) ?_)
         refine O_a rfl ?_
         have hs := hs.f2
         have hs := hs.f2
         have hs := hs.f2
         refine O_nil ⟨_, ?_, [(0, _), (2, _), (3, _), (4, _), (6, _), (8, _)], ⟨rfl, rfl, rfl, rfl, rfl, rfl, trivial⟩, ⟨j + 1, _, .inr (by omega), rfl, rfl, by rw [rg_succ]; exact hs⟩⟩
         omega
        ·
         dsimp only [cmpP] at h46
         refine O_nil (T_kp [0, 2, 3, 4, 6, 8, 46] rfl ?_)
         refine T_condF rfl (T_exit ?_)
         have hs := hs.f2
         have hs := hs.f2
         have hs := hs.f2
         refine ⟨_, ?_, [(0, _), (2, _), (3, _), (4, _)], ⟨rfl, rfl, rfl, rfl, trivial⟩, ⟨0, _, _, _, _, _, .inr ⟨hef, rfl, rg_len hc4 _ _, by omega, by omega, _, rfl, cl_bad hcl hk21 hc25 hk28 hc34 (by omega)⟩, rfl, rfl, hs⟩⟩
         omega
       ·
        dsimp only [cmpP] at h37
        refine O_nil (T_kp [0, 2, 3, 4, 5, 6, 7, 37] rfl ?_)
        refine T_condF rfl (T_skip ?_)
        refine T_seq (T_region rfl ?_)
        refine O_m rfl ?_
        refine O_y hs (Y_conv Tryz.underlying5 Tryz.underlying3 (c := (y25.toNat : Int)) rfl (by rw [IntKind.wrap_i64]; have := y25.toNat_lt; omega) ?_)
        refine O_a rfl ?_
        refine O_nil (T_kp [0, 2, 3, 4, 6, 8] rfl ?_)
        have hs := hs.f2
        have hs := hs.f1
        have hs := hs.f2
        refine T_block (T_loop (fun m E w => ∃ (j : Nat) (G' : Ghost), (j = 0 ∨ y25.toNat + j ≤ y34.toNat + 1) ∧ m = y34.toNat + 1 - (y25.toNat + j) ∧ E = ⟨[], [(0, .pointer (some ⟨p, 0, none⟩)), (2, .pointer (some ⟨b2, 0, none⟩)), (3, .bool true), (4, .pointer (some ⟨b4, 0, none⟩)), (6, .int .u8 (y34.toNat : Int)), (8, .int .i64 ((y25.toNat + j : Nat) : Int))]⟩ ∧ St ⟨w0, G, feet [.blk p 61 [.string ⟨s.toArray⟩, .int .i64 (q : Int), v, .int .i64 0, .int .i64 0]]⟩ G' [.blk b4 40 (List.map u64V (rgF c y25.toNat j)), .blk p 61 [.string ⟨s.toArray⟩, .int .i64 (at34 : Int), v, .int .i64 0, .int .i64 0], .blk b2 40 (List.map u64V [0, 0, 0, 0])] w) (L := [(0, _), (2, _), (3, _), (4, _), (6, _), (8, _)]) ⟨rfl, rfl, rfl, rfl, rfl, rfl, trivial⟩ (⟨0, _, .inl rfl, rfl, rfl, hs⟩) fun m E w hI => ?_)
        obtain ⟨j, G', hj, rfl, rfl, hs⟩ := hI
        have hrg := rg_len hc4 y25.toNat j
        refine T_seq (T_seq (T_region rfl ?_))
        refine O_m rfl ?_
        refine O_m rfl ?_
        refine O_y hs (Y_conv Tryz.underlying5 Tryz.underlying3 (c := (y34.toNat : Int)) rfl (by rw [IntKind.wrap_i64]; have := y34.toNat_lt; omega) ?_)
        refine O_y hs (Y_cmpS rfl rfl rfl (fun h46 => ?_) (fun h46 => ?_))
        ·
         dsimp only [cmpP] at h46
         refine O_nil (T_kp [0, 2, 3, 4, 6, 8, 46] rfl ?_)
         refine T_condT rfl (T_skip ?_)
         refine T_seq (T_block (T_region rfl ?_))
         refine O_y hs (Y_ldW 0 Tryz.isAgg40 Tryz.sizeOf40 rfl rfl (by first | omega | (simp; omega) | simp) ?_)
         refine O_m rfl ?_
         refine O_y hs (Y_conv Tryz.underlying3 Tryz.underlying5 (c := ((bC (y25.toNat + j)).toNat : Int)) rfl (bC_int (by have := y34.toNat_lt; omega)) ?_)
         refine O_s (S_call (H1 := []) hs rfl Tryz.func30 rfl (by kernel_rfl) (radd_ok (c := rgF c y25.toNat j) (x := bC (y25.toNat + j)) hrg) fun v26 G' H' _ hR hG52 hs => ?_)
         obtain ⟨rfl, rfl⟩ := hR
         replace hs : St _ _ [_, _, _] _ := hs
         have hrg2 : (addF (rgF c y25.toNat j) (bC (y25.toNat + j))).length = 4 := by rw [addF_len]; exact hrg
         refine O_n (S_stW hs Tryz.sizeOf40 rfl rfl (vs := (List.map u64V (addF (rgF c y25.toNat j) (bC (y25.toNat + j))))) (by first | omega | (simp; omega) | simp) (by first | omega | (simp; omega) | simp) (u64_all _) fun _ hs => ?_)
         refine O_nil (T_kp [0, 2, 3, 4, 6, 8] rfl ?_)
         refine T_region rfl ?_
         refine O_m rfl ?_
         refine O_y hs (Y_add (c := ((y25.toNat + (j + 1) : Nat) : Int)) rfl rfl (by omega) (by omega) ?_)
         refine O_a rfl ?_
         have hs := hs.f2
         have hs := hs.f2
         have hs := hs.f2
         refine O_nil ⟨_, ?_, [(0, _), (2, _), (3, _), (4, _), (6, _), (8, _)], ⟨rfl, rfl, rfl, rfl, rfl, rfl, trivial⟩, ⟨j + 1, _, .inr (by omega), rfl, rfl, by rw [rg_succ]; exact hs⟩⟩
         omega
        ·
         dsimp only [cmpP] at h46
         refine O_nil (T_kp [0, 2, 3, 4, 6, 8, 46] rfl ?_)
         refine T_condF rfl (T_exit ?_)
         have hs := hs.f2
         have hs := hs.f2
         have hs := hs.f2
         have hjf : j = y34.toNat + 1 - y25.toNat := by omega
         subst hjf
         rw [rg_union hc] at hs
         have hun := union_ok' hc (range_ok' y25 y34)
         refine ⟨_, ?_, [(0, _), (2, _), (3, _), (4, _)], ⟨rfl, rfl, rfl, rfl, trivial⟩, ⟨f1, _, _, _, _, _, .inl ⟨rfl, rfl, cl_two hcl hk21 hc25 hk28 hc34 h37, hun, by omega, by omega⟩, rfl, rfl, hs⟩⟩
         omega
      ·
       refine O_a rfl ?_
       refine O_nil (T_kp [0, 2, 3, 4, 5, 6, 7] rfl ?_)
       refine T_seq (T_region rfl ?_)
       refine O_m rfl ?_
       refine O_m rfl ?_
       refine O_y hs (Y_cmpS rfl rfl rfl (fun h37 => ?_) (fun h37 => ?_))
       ·
        dsimp only [cmpP] at h37
        refine O_nil (T_kp [0, 2, 3, 4, 5, 6, 7, 37] rfl ?_)
        refine T_condT rfl (T_region rfl ?_)
        refine O_m rfl ?_
        refine O_m rfl ?_
        refine O_s (S_call (H1 := [_]) hs rfl Tryz.func36 rfl (by kernel_rfl) (fail_e (q := at34) (by omega) hl he34) fun v27 G' H' _ hR hG40 hs => ?_)
        obtain rfl := hR
        replace hs : St _ _ [_, _, _] _ := hs
        refine O_nil (T_kp [0, 2, 3, 4, 5, 6] rfl ?_)
        refine T_seq (T_region rfl ?_)
        refine O_m rfl ?_
        refine O_y hs (Y_conv Tryz.underlying5 Tryz.underlying3 (c := (y25.toNat : Int)) rfl (by rw [IntKind.wrap_i64]; have := y25.toNat_lt; omega) ?_)
        refine O_a rfl ?_
        refine O_nil (T_kp [0, 2, 3, 4, 6, 8] rfl ?_)
        have hs := hs.f2
        have hs := hs.f1
        have hs := hs.f2
        refine T_block (T_loop (fun m E w => ∃ (j : Nat) (G' : Ghost), (j = 0 ∨ y25.toNat + j ≤ y34.toNat + 1) ∧ m = y34.toNat + 1 - (y25.toNat + j) ∧ E = ⟨[], [(0, .pointer (some ⟨p, 0, none⟩)), (2, .pointer (some ⟨b2, 0, none⟩)), (3, .bool true), (4, .pointer (some ⟨b4, 0, none⟩)), (6, .int .u8 (y34.toNat : Int)), (8, .int .i64 ((y25.toNat + j : Nat) : Int))]⟩ ∧ St ⟨w0, G, feet [.blk p 61 [.string ⟨s.toArray⟩, .int .i64 (q : Int), v, .int .i64 0, .int .i64 0]]⟩ G' [.blk b4 40 (List.map u64V (rgF c y25.toNat j)), .blk p 61 [.string ⟨s.toArray⟩, .int .i64 (at34 : Int), v, .int .i64 er34, .int .i64 (w34 : Int)], .blk b2 40 (List.map u64V [0, 0, 0, 0])] w) (L := [(0, _), (2, _), (3, _), (4, _), (6, _), (8, _)]) ⟨rfl, rfl, rfl, rfl, rfl, rfl, trivial⟩ (⟨0, _, .inl rfl, rfl, rfl, hs⟩) fun m E w hI => ?_)
        obtain ⟨j, G', hj, rfl, rfl, hs⟩ := hI
        have hrg := rg_len hc4 y25.toNat j
        refine T_seq (T_seq (T_region rfl ?_))
        refine O_m rfl ?_
        refine O_m rfl ?_
        refine O_y hs (Y_conv Tryz.underlying5 Tryz.underlying3 (c := (y34.toNat : Int)) rfl (by rw [IntKind.wrap_i64]; have := y34.toNat_lt; omega) ?_)
        refine O_y hs (Y_cmpS rfl rfl rfl (fun h46 => ?_) (fun h46 => ?_))
        ·
         dsimp only [cmpP] at h46
         refine O_nil (T_kp [0, 2, 3, 4, 6, 8, 46] rfl ?_)
         refine T_condT rfl (T_skip ?_)
         refine T_seq (T_block (T_region rfl ?_))
         refine O_y hs (Y_ldW 0 Tryz.isAgg40 Tryz.sizeOf40 rfl rfl (by first | omega | (simp; omega) | simp) ?_)
         refine O_m rfl ?_
         refine O_y hs (Y_conv Tryz.underlying3 Tryz.underlying5 (c := ((bC (y25.toNat + j)).toNat : Int)) rfl (bC_int (by have := y34.toNat_lt; omega)) ?_)
         refine O_s (S_call (H1 := []) hs rfl Tryz.func30 rfl (by kernel_rfl) (radd_ok (c := rgF c y25.toNat j) (x := bC (y25.toNat + j)) hrg) fun v28 G' H' _ hR hG52 hs => ?_)
         obtain ⟨rfl, rfl⟩ := hR
         replace hs : St _ _ [_, _, _] _ := hs
         have hrg2 : (addF (rgF c y25.toNat j) (bC (y25.toNat + j))).length = 4 := by rw [addF_len]; exact hrg
         refine O_n (S_stW hs Tryz.sizeOf40 rfl rfl (vs := (List.map u64V (addF (rgF c y25.toNat j) (bC (y25.toNat + j))))) (by first | omega | (simp; omega) | simp) (by first | omega | (simp; omega) | simp) (u64_all _) fun _ hs => ?_)
         refine O_nil (T_kp [0, 2, 3, 4, 6, 8] rfl ?_)
         refine T_region rfl ?_
         refine O_m rfl ?_
         refine O_y hs (Y_add (c := ((y25.toNat + (j + 1) : Nat) : Int)) rfl rfl (by omega) (by omega) ?_)
         refine O_a rfl ?_
         have hs := hs.f2
         have hs := hs.f2
         have hs := hs.f2
         refine O_nil ⟨_, ?_, [(0, _), (2, _), (3, _), (4, _), (6, _), (8, _)], ⟨rfl, rfl, rfl, rfl, rfl, rfl, trivial⟩, ⟨j + 1, _, .inr (by omega), rfl, rfl, by rw [rg_succ]; exact hs⟩⟩
         omega
        ·
         dsimp only [cmpP] at h46
         refine O_nil (T_kp [0, 2, 3, 4, 6, 8, 46] rfl ?_)
         refine T_condF rfl (T_exit ?_)
         have hs := hs.f2
         have hs := hs.f2
         have hs := hs.f2
         refine ⟨_, ?_, [(0, _), (2, _), (3, _), (4, _)], ⟨rfl, rfl, rfl, rfl, trivial⟩, ⟨0, _, _, _, _, _, .inr ⟨he34, rfl, rg_len hc4 _ _, by omega, by omega, _, rfl, cl_err2 hcl hk21 hc25 hk28 hc34⟩, rfl, rfl, hs⟩⟩
         omega
       ·
        dsimp only [cmpP] at h37
        refine O_nil (T_kp [0, 2, 3, 4, 5, 6, 7, 37] rfl ?_)
        refine T_condF rfl (T_skip ?_)
        refine T_seq (T_region rfl ?_)
        refine O_m rfl ?_
        refine O_y hs (Y_conv Tryz.underlying5 Tryz.underlying3 (c := (y25.toNat : Int)) rfl (by rw [IntKind.wrap_i64]; have := y25.toNat_lt; omega) ?_)
        refine O_a rfl ?_
        refine O_nil (T_kp [0, 2, 3, 4, 6, 8] rfl ?_)
        have hs := hs.f2
        have hs := hs.f1
        have hs := hs.f2
        refine T_block (T_loop (fun m E w => ∃ (j : Nat) (G' : Ghost), (j = 0 ∨ y25.toNat + j ≤ y34.toNat + 1) ∧ m = y34.toNat + 1 - (y25.toNat + j) ∧ E = ⟨[], [(0, .pointer (some ⟨p, 0, none⟩)), (2, .pointer (some ⟨b2, 0, none⟩)), (3, .bool true), (4, .pointer (some ⟨b4, 0, none⟩)), (6, .int .u8 (y34.toNat : Int)), (8, .int .i64 ((y25.toNat + j : Nat) : Int))]⟩ ∧ St ⟨w0, G, feet [.blk p 61 [.string ⟨s.toArray⟩, .int .i64 (q : Int), v, .int .i64 0, .int .i64 0]]⟩ G' [.blk b4 40 (List.map u64V (rgF c y25.toNat j)), .blk p 61 [.string ⟨s.toArray⟩, .int .i64 (at34 : Int), v, .int .i64 er34, .int .i64 (w34 : Int)], .blk b2 40 (List.map u64V [0, 0, 0, 0])] w) (L := [(0, _), (2, _), (3, _), (4, _), (6, _), (8, _)]) ⟨rfl, rfl, rfl, rfl, rfl, rfl, trivial⟩ (⟨0, _, .inl rfl, rfl, rfl, hs⟩) fun m E w hI => ?_)
        obtain ⟨j, G', hj, rfl, rfl, hs⟩ := hI
        have hrg := rg_len hc4 y25.toNat j
        refine T_seq (T_seq (T_region rfl ?_))
        refine O_m rfl ?_
        refine O_m rfl ?_
        refine O_y hs (Y_conv Tryz.underlying5 Tryz.underlying3 (c := (y34.toNat : Int)) rfl (by rw [IntKind.wrap_i64]; have := y34.toNat_lt; omega) ?_)
        refine O_y hs (Y_cmpS rfl rfl rfl (fun h46 => ?_) (fun h46 => ?_))
        ·
         dsimp only [cmpP] at h46
         refine O_nil (T_kp [0, 2, 3, 4, 6, 8, 46] rfl ?_)
         refine T_condT rfl (T_skip ?_)
         refine T_seq (T_block (T_region rfl ?_))
         refine O_y hs (Y_ldW 0 Tryz.isAgg40 Tryz.sizeOf40 rfl rfl (by first | omega | (simp; omega) | simp) ?_)
         refine O_m rfl ?_
         refine O_y hs (Y_conv Tryz.underlying3 Tryz.underlying5 (c := ((bC (y25.toNat + j)).toNat : Int)) rfl (bC_int (by have := y34.toNat_lt; omega)) ?_)
         refine O_s (S_call (H1 := []) hs rfl Tryz.func30 rfl (by kernel_rfl) (radd_ok (c := rgF c y25.toNat j) (x := bC (y25.toNat + j)) hrg) fun v29 G' H' _ hR hG52 hs => ?_)
         obtain ⟨rfl, rfl⟩ := hR
         replace hs : St _ _ [_, _, _] _ := hs
         have hrg2 : (addF (rgF c y25.toNat j) (bC (y25.toNat + j))).length = 4 := by rw [addF_len]; exact hrg
         refine O_n (S_stW hs Tryz.sizeOf40 rfl rfl (vs := (List.map u64V (addF (rgF c y25.toNat j) (bC (y25.toNat + j))))) (by first | omega | (simp; omega) | simp) (by first | omega | (simp; omega) | simp) (u64_all _) fun _ hs => ?_)
         refine O_nil (T_kp [0, 2, 3, 4, 6, 8] rfl ?_)
         refine T_region rfl ?_
         refine O_m rfl ?_
         refine O_y hs (Y_add (c := ((y25.toNat + (j + 1) : Nat) : Int)) rfl rfl (by omega) (by omega) ?_)
         refine O_a rfl ?_
         have hs := hs.f2
         have hs := hs.f2
         have hs := hs.f2
         refine O_nil ⟨_, ?_, [(0, _), (2, _), (3, _), (4, _), (6, _), (8, _)], ⟨rfl, rfl, rfl, rfl, rfl, rfl, trivial⟩, ⟨j + 1, _, .inr (by omega), rfl, rfl, by rw [rg_succ]; exact hs⟩⟩
         omega
        ·
         dsimp only [cmpP] at h46
         refine O_nil (T_kp [0, 2, 3, 4, 6, 8, 46] rfl ?_)
         refine T_condF rfl (T_exit ?_)
         have hs := hs.f2
         have hs := hs.f2
         have hs := hs.f2
         refine ⟨_, ?_, [(0, _), (2, _), (3, _), (4, _)], ⟨rfl, rfl, rfl, rfl, trivial⟩, ⟨0, _, _, _, _, _, .inr ⟨he34, rfl, rg_len hc4 _ _, by omega, by omega, _, rfl, cl_err2 hcl hk21 hc25 hk28 hc34⟩, rfl, rfl, hs⟩⟩
         omega
    ·
     refine O_a rfl ?_
     refine O_nil (T_kp [0, 2, 3, 4, 5] rfl ?_)
     refine T_seq (T_region rfl ?_)
     refine O_m rfl ?_
     refine O_a rfl ?_
     refine O_nil (T_kp [0, 2, 3, 4, 5, 6] rfl ?_)
     refine T_seq (T_seq (T_region rfl ?_))
     refine O_m rfl ?_
     refine O_s (S_call (H1 := [_]) hs rfl Tryz.func52 rfl (by kernel_rfl) (take_e (q := at25) (b := 45) (by omega) hl he25) fun v30 G' H' _ hR hG28 hs => ?_)
     obtain ⟨rfl, rfl⟩ := hR
     replace hs : St _ _ [_, _, _] _ := hs
     refine O_nil (T_kp [0, 2, 3, 4, 5, 6, 28] rfl ?_)
     refine T_condF rfl (T_skip ?_)
     refine T_seq (T_region rfl ?_)
     refine O_m rfl ?_
     refine O_y hs (Y_conv Tryz.underlying5 Tryz.underlying3 (c := (y25.toNat : Int)) rfl (by rw [IntKind.wrap_i64]; have := y25.toNat_lt; omega) ?_)
     refine O_a rfl ?_
     refine O_nil (T_kp [0, 2, 3, 4, 6, 8] rfl ?_)
     have hs := hs.f2
     have hs := hs.f1
     have hs := hs.f2
     refine T_block (T_loop (fun m E w => ∃ (j : Nat) (G' : Ghost), (j = 0 ∨ y25.toNat + j ≤ y25.toNat + 1) ∧ m = y25.toNat + 1 - (y25.toNat + j) ∧ E = ⟨[], [(0, .pointer (some ⟨p, 0, none⟩)), (2, .pointer (some ⟨b2, 0, none⟩)), (3, .bool true), (4, .pointer (some ⟨b4, 0, none⟩)), (6, .int .u8 (y25.toNat : Int)), (8, .int .i64 ((y25.toNat + j : Nat) : Int))]⟩ ∧ St ⟨w0, G, feet [.blk p 61 [.string ⟨s.toArray⟩, .int .i64 (q : Int), v, .int .i64 0, .int .i64 0]]⟩ G' [.blk b4 40 (List.map u64V (rgF c y25.toNat j)), .blk p 61 [.string ⟨s.toArray⟩, .int .i64 (at25 : Int), v, .int .i64 er25, .int .i64 (w25 : Int)], .blk b2 40 (List.map u64V [0, 0, 0, 0])] w) (L := [(0, _), (2, _), (3, _), (4, _), (6, _), (8, _)]) ⟨rfl, rfl, rfl, rfl, rfl, rfl, trivial⟩ (⟨0, _, .inl rfl, rfl, rfl, hs⟩) fun m E w hI => ?_)
     obtain ⟨j, G', hj, rfl, rfl, hs⟩ := hI
     have hrg := rg_len hc4 y25.toNat j
     refine T_seq (T_seq (T_region rfl ?_))
     refine O_m rfl ?_
     refine O_m rfl ?_
     refine O_y hs (Y_conv Tryz.underlying5 Tryz.underlying3 (c := (y25.toNat : Int)) rfl (by rw [IntKind.wrap_i64]; have := y25.toNat_lt; omega) ?_)
     refine O_y hs (Y_cmpS rfl rfl rfl (fun h46 => ?_) (fun h46 => ?_))
     ·
      dsimp only [cmpP] at h46
      refine O_nil (T_kp [0, 2, 3, 4, 6, 8, 46] rfl ?_)
      refine T_condT rfl (T_skip ?_)
      refine T_seq (T_block (T_region rfl ?_))
      refine O_y hs (Y_ldW 0 Tryz.isAgg40 Tryz.sizeOf40 rfl rfl (by first | omega | (simp; omega) | simp) ?_)
      refine O_m rfl ?_
      refine O_y hs (Y_conv Tryz.underlying3 Tryz.underlying5 (c := ((bC (y25.toNat + j)).toNat : Int)) rfl (bC_int (by have := y25.toNat_lt; omega)) ?_)
      refine O_s (S_call (H1 := []) hs rfl Tryz.func30 rfl (by kernel_rfl) (radd_ok (c := rgF c y25.toNat j) (x := bC (y25.toNat + j)) hrg) fun v31 G' H' _ hR hG52 hs => ?_)
      obtain ⟨rfl, rfl⟩ := hR
      replace hs : St _ _ [_, _, _] _ := hs
      have hrg2 : (addF (rgF c y25.toNat j) (bC (y25.toNat + j))).length = 4 := by rw [addF_len]; exact hrg
      refine O_n (S_stW hs Tryz.sizeOf40 rfl rfl (vs := (List.map u64V (addF (rgF c y25.toNat j) (bC (y25.toNat + j))))) (by first | omega | (simp; omega) | simp) (by first | omega | (simp; omega) | simp) (u64_all _) fun _ hs => ?_)
      refine O_nil (T_kp [0, 2, 3, 4, 6, 8] rfl ?_)
      refine T_region rfl ?_
      refine O_m rfl ?_
      refine O_y hs (Y_add (c := ((y25.toNat + (j + 1) : Nat) : Int)) rfl rfl (by omega) (by omega) ?_)
      refine O_a rfl ?_
      have hs := hs.f2
      have hs := hs.f2
      have hs := hs.f2
      refine O_nil ⟨_, ?_, [(0, _), (2, _), (3, _), (4, _), (6, _), (8, _)], ⟨rfl, rfl, rfl, rfl, rfl, rfl, trivial⟩, ⟨j + 1, _, .inr (by omega), rfl, rfl, by rw [rg_succ]; exact hs⟩⟩
      omega
     ·
      dsimp only [cmpP] at h46
      refine O_nil (T_kp [0, 2, 3, 4, 6, 8, 46] rfl ?_)
      refine T_condF rfl (T_exit ?_)
      have hs := hs.f2
      have hs := hs.f2
      have hs := hs.f2
      refine ⟨_, ?_, [(0, _), (2, _), (3, _), (4, _)], ⟨rfl, rfl, rfl, rfl, trivial⟩, ⟨0, _, _, _, _, _, .inr ⟨he25, rfl, rg_len hc4 _ _, by omega, by omega, _, rfl, cl_err hcl hk21 hc25⟩, rfl, rfl, hs⟩⟩
      omega
   ·
    have hlt21 := isB_lt hk21
    have hs := hs.f1
    refine O_yes 19 rfl rfl (S_call (H1 := [_]) hs rfl Tryz.func52 rfl (by kernel_rfl) (take_0t (q := at_) (by omega) hl hk21) fun v32 G' H' _ hR hG21 hs => ?_)
    obtain ⟨rfl, rfl⟩ := hR
    replace hs : St _ _ [_, _, _] _ := hs
    refine O_yy 19 hs rfl rfl (Y_not rfl ?_)
    refine O_y hs (Y_pickT rfl rfl ?_)
    refine O_nil (T_kp [0, 2, 3, 4, 23] rfl ?_)
    refine T_condF rfl (T_exit ?_)
    have hout : ClO s q rl c (at_ + 1 : Nat) 0 0 := ⟨hc.1, by omega, by omega, .inl ⟨rfl, rfl, cl_end hcl hk21, hc⟩⟩
    refine T_seq (T_seq (T_region rfl ?_))
    refine O_m rfl ?_
    refine O_nil (T_kp [2, 4, 53] rfl ?_)
    refine T_condT rfl (T_seq (T_region rfl ?_))
    refine O_s (S_call (H1 := []) hs rfl Tryz.func74 rfl (by kernel_rfl) (rall_ok) fun v33 G' H' _ hR hG54 hs => ?_)
    obtain ⟨rfl, rfl⟩ := hR
    replace hs : St _ _ [_, _, _] _ := hs
    refine O_s (S_alloc hs Tryz.zeroValue40 (cs := (List.map u64V [0, 0, 0, 0])) rfl fun b9 _ hs => ?_)
    refine O_n (S_stW hs Tryz.sizeOf40 rfl rfl (vs := (List.map u64V allC)) (by first | omega | (simp; omega) | simp) (by first | omega | (simp; omega) | simp) (u64_all _) fun _ hs => ?_)
    refine O_nil (T_kp [2, 4, 9] rfl ?_)
    refine T_seq (T_region rfl ?_)
    refine O_a rfl ?_
    refine O_nil (T_kp [2, 4, 9, 10] rfl ?_)
    have hs := hs.f3
    have hs := hs.f2
    have hs := hs.f2
    have hs := hs.f3
    refine T_block (T_loop (fun m E w => ∃ (i : Nat) (G' : Ghost), i ≤ 4 ∧ m = 4 - i ∧ E = ⟨[], [(2, .pointer (some ⟨b2, 0, none⟩)), (4, .pointer (some ⟨b4, 0, none⟩)), (9, .pointer (some ⟨b9, 0, none⟩)), (10, .int .i64 (i : Int))]⟩ ∧ St ⟨w0, G, feet [.blk p 61 [.string ⟨s.toArray⟩, .int .i64 (q : Int), v, .int .i64 0, .int .i64 0]]⟩ G' [.blk b4 40 (List.map u64V (mixC c i)), .blk b9 40 (List.map u64V allC), .blk p 61 [.string ⟨s.toArray⟩, .int .i64 ((at_ + 1 : Nat) : Int), v, .int .i64 0, .int .i64 0], .blk b2 40 (List.map u64V [0, 0, 0, 0])] w) (L := [(2, _), (4, _), (9, _), (10, _)]) ⟨rfl, rfl, rfl, rfl, trivial⟩ (⟨0, _, by omega, rfl, rfl, hs⟩) fun m E w hI => ?_)
    obtain ⟨i, G', hi, rfl, rfl, hs⟩ := hI
    have hmx := mixC_len hc4 (i := i) (by omega)
    refine T_seq (T_seq (T_region rfl ?_))
    refine O_m rfl ?_
    refine O_y hs (Y_cmpS rfl rfl rfl (fun h56 => ?_) (fun h56 => ?_))
    ·
     dsimp only [cmpP] at h56
     refine O_nil (T_kp [2, 4, 9, 10, 56] rfl ?_)
     refine T_condT rfl (T_skip ?_)
     refine T_seq (T_block (T_drawS [0, 1, 2, 3, 4, 5, 6, 7, 8] hs (by kernel_rfl) ?_))
     replace hs := hs.drew
     refine A_take 0 rfl (by kernel_rfl) rfl hs (Y_move rfl ?_)
     refine A_take 1 rfl (by kernel_rfl) rfl hs (Y_move rfl ?_)
     refine A_take 2 rfl (by kernel_rfl) rfl hs (Y_idxArr' i Tryz.underlying40 Tryz.sizeOf38 rfl rfl rfl (by omega) ?_)
     refine A_take 3 rfl (by kernel_rfl) rfl hs (Y_ld 1 Tryz.isAgg38 rfl rfl (allC_get (by omega)) ?_)
     refine A_take 4 rfl (by kernel_rfl) rfl hs (Y_move rfl ?_)
     refine A_take 5 rfl (by kernel_rfl) rfl hs (Y_idxArr' i Tryz.underlying40 Tryz.sizeOf38 rfl rfl rfl (by omega) ?_)
     refine A_take 6 rfl (by kernel_rfl) rfl hs (Y_ld 0 Tryz.isAgg38 rfl rfl (mixC_get hc4 (by omega)) ?_)
     refine A_take 7 rfl (by kernel_rfl) rfl hs (Y_xor64 rfl rfl ?_)
     refine A_take 8 rfl (by kernel_rfl) rfl hs (Y_idxArr' i Tryz.underlying40 Tryz.sizeOf38 rfl rfl rfl (by omega) ?_)
     refine A_tailN 9 rfl (by kernel_rfl) (by kernel_rfl) rfl (S_st hs Tryz.sizeOf38 rfl rfl rfl (by rw [List.length_map, mixC_len hc4 (by omega)]; omega) (cs' := _) rfl fun _ hs => ?_)
     refine A_done (by kernel_rfl) (T_kp [2, 4, 9, 10] rfl ?_)
     refine T_region rfl ?_
     refine O_m rfl ?_
     refine O_y hs (Y_add (c := ((i + 1 : Nat) : Int)) rfl rfl (by omega) (by omega) ?_)
     refine O_a rfl ?_
     have hs := hs.f3
     have hs := hs.f3
     have hs := hs.f3
     have hs := hs.f3
     refine O_nil ⟨_, ?_, [(2, _), (4, _), (9, _), (10, _)], ⟨rfl, rfl, rfl, rfl, trivial⟩, ⟨i + 1, _, by omega, rfl, rfl, by rw [← mixC_set hc4 (by omega)]; exact hs⟩⟩
     omega
    ·
     dsimp only [cmpP] at h56
     refine O_nil (T_kp [2, 4, 9, 10, 56] rfl ?_)
     refine T_condF rfl (T_exit ?_)
     obtain rfl : i = 4 := by omega
     rw [mixC_4 hc4] at hs
     have hnl := notF_len hc4
     refine T_seq (T_region rfl ?_)
     refine O_y hs (Y_ldW 0 Tryz.isAgg40 Tryz.sizeOf40 rfl rfl (by first | omega | (simp; omega) | simp) ?_)
     have hs := hs.f3
     refine O_n (S_stW hs Tryz.sizeOf40 rfl rfl (vs := (List.map u64V (notF c))) (by first | omega | (simp; omega) | simp) (by first | omega | (simp; omega) | simp) (u64_all _) fun _ hs => ?_)
     refine O_nil (T_kp [2] rfl ?_)
     refine T_ret ?_
     have hs := hs.f3
     have hr := hs
     refine Rt_fin (vs := [_]) Tryz.results114 rfl ⟨ResOk_blk 1 hr Tryz.isAgg40 Tryz.sizeOf40 rfl (cs := (List.map u64V (notF c))) rfl (by first | omega | (simp; omega) | simp), trivial⟩ ?_
     try dsimp only [tup]
     exact ⟨_, _, hs.weak hs.le (Ghost.le.refl _) (List.sublist_append_left [_] _), notF c, _, _, _, rfl, rfl, by rw [hr0]; exact hout.not⟩
  ·
   dsimp only [cmpP] at h18
   refine O_m rfl ?_
   refine O_no 19 rfl rfl ?_
   refine O_no 19 rfl rfl ?_
   refine O_no 19 rfl rfl ?_
   refine O_y hs (Y_pickF rfl rfl ?_)
   refine O_nil (T_kp [0, 2, 3, 4, 23] rfl ?_)
   refine T_condF rfl (T_exit ?_)
   have hout : ClO s q rl c at_ er wh := ⟨hc4, by omega, by omega, .inr ⟨h18, by rcases hI with h | h; exact absurd h.1 h18; exact h.2.2.2.2.2⟩⟩
   refine T_seq (T_seq (T_region rfl ?_))
   refine O_m rfl ?_
   refine O_nil (T_kp [2, 4, 53] rfl ?_)
   refine T_condT rfl (T_seq (T_region rfl ?_))
   refine O_s (S_call (H1 := []) hs rfl Tryz.func74 rfl (by kernel_rfl) (rall_ok) fun v34 G' H' _ hR hG54 hs => ?_)
   obtain ⟨rfl, rfl⟩ := hR
   replace hs : St _ _ [_, _, _] _ := hs
   refine O_s (S_alloc hs Tryz.zeroValue40 (cs := (List.map u64V [0, 0, 0, 0])) rfl fun b9 _ hs => ?_)
   refine O_n (S_stW hs Tryz.sizeOf40 rfl rfl (vs := (List.map u64V allC)) (by first | omega | (simp; omega) | simp) (by first | omega | (simp; omega) | simp) (u64_all _) fun _ hs => ?_)
   refine O_nil (T_kp [2, 4, 9] rfl ?_)
   refine T_seq (T_region rfl ?_)
   refine O_a rfl ?_
   refine O_nil (T_kp [2, 4, 9, 10] rfl ?_)
   have hs := hs.f3
   have hs := hs.f3
   have hs := hs.f2
   have hs := hs.f3
   refine T_block (T_loop (fun m E w => ∃ (i : Nat) (G' : Ghost), i ≤ 4 ∧ m = 4 - i ∧ E = ⟨[], [(2, .pointer (some ⟨b2, 0, none⟩)), (4, .pointer (some ⟨b4, 0, none⟩)), (9, .pointer (some ⟨b9, 0, none⟩)), (10, .int .i64 (i : Int))]⟩ ∧ St ⟨w0, G, feet [.blk p 61 [.string ⟨s.toArray⟩, .int .i64 (q : Int), v, .int .i64 0, .int .i64 0]]⟩ G' [.blk b4 40 (List.map u64V (mixC c i)), .blk b9 40 (List.map u64V allC), .blk p 61 [.string ⟨s.toArray⟩, .int .i64 (at_ : Int), v, .int .i64 er, .int .i64 wh], .blk b2 40 (List.map u64V [0, 0, 0, 0])] w) (L := [(2, _), (4, _), (9, _), (10, _)]) ⟨rfl, rfl, rfl, rfl, trivial⟩ (⟨0, _, by omega, rfl, rfl, hs⟩) fun m E w hI => ?_)
   obtain ⟨i, G', hi, rfl, rfl, hs⟩ := hI
   have hmx := mixC_len hc4 (i := i) (by omega)
   refine T_seq (T_seq (T_region rfl ?_))
   refine O_m rfl ?_
   refine O_y hs (Y_cmpS rfl rfl rfl (fun h56 => ?_) (fun h56 => ?_))
   ·
    dsimp only [cmpP] at h56
    refine O_nil (T_kp [2, 4, 9, 10, 56] rfl ?_)
    refine T_condT rfl (T_skip ?_)
    refine T_seq (T_block (T_drawS [0, 1, 2, 3, 4, 5, 6, 7, 8] hs (by kernel_rfl) ?_))
    replace hs := hs.drew
    refine A_take 0 rfl (by kernel_rfl) rfl hs (Y_move rfl ?_)
    refine A_take 1 rfl (by kernel_rfl) rfl hs (Y_move rfl ?_)
    refine A_take 2 rfl (by kernel_rfl) rfl hs (Y_idxArr' i Tryz.underlying40 Tryz.sizeOf38 rfl rfl rfl (by omega) ?_)
    refine A_take 3 rfl (by kernel_rfl) rfl hs (Y_ld 1 Tryz.isAgg38 rfl rfl (allC_get (by omega)) ?_)
    refine A_take 4 rfl (by kernel_rfl) rfl hs (Y_move rfl ?_)
    refine A_take 5 rfl (by kernel_rfl) rfl hs (Y_idxArr' i Tryz.underlying40 Tryz.sizeOf38 rfl rfl rfl (by omega) ?_)
    refine A_take 6 rfl (by kernel_rfl) rfl hs (Y_ld 0 Tryz.isAgg38 rfl rfl (mixC_get hc4 (by omega)) ?_)
    refine A_take 7 rfl (by kernel_rfl) rfl hs (Y_xor64 rfl rfl ?_)
    refine A_take 8 rfl (by kernel_rfl) rfl hs (Y_idxArr' i Tryz.underlying40 Tryz.sizeOf38 rfl rfl rfl (by omega) ?_)
    refine A_tailN 9 rfl (by kernel_rfl) (by kernel_rfl) rfl (S_st hs Tryz.sizeOf38 rfl rfl rfl (by rw [List.length_map, mixC_len hc4 (by omega)]; omega) (cs' := _) rfl fun _ hs => ?_)
    refine A_done (by kernel_rfl) (T_kp [2, 4, 9, 10] rfl ?_)
    refine T_region rfl ?_
    refine O_m rfl ?_
    refine O_y hs (Y_add (c := ((i + 1 : Nat) : Int)) rfl rfl (by omega) (by omega) ?_)
    refine O_a rfl ?_
    have hs := hs.f3
    have hs := hs.f3
    have hs := hs.f3
    have hs := hs.f3
    refine O_nil ⟨_, ?_, [(2, _), (4, _), (9, _), (10, _)], ⟨rfl, rfl, rfl, rfl, trivial⟩, ⟨i + 1, _, by omega, rfl, rfl, by rw [← mixC_set hc4 (by omega)]; exact hs⟩⟩
    omega
   ·
    dsimp only [cmpP] at h56
    refine O_nil (T_kp [2, 4, 9, 10, 56] rfl ?_)
    refine T_condF rfl (T_exit ?_)
    obtain rfl : i = 4 := by omega
    rw [mixC_4 hc4] at hs
    have hnl := notF_len hc4
    refine T_seq (T_region rfl ?_)
    refine O_y hs (Y_ldW 0 Tryz.isAgg40 Tryz.sizeOf40 rfl rfl (by first | omega | (simp; omega) | simp) ?_)
    have hs := hs.f3
    refine O_n (S_stW hs Tryz.sizeOf40 rfl rfl (vs := (List.map u64V (notF c))) (by first | omega | (simp; omega) | simp) (by first | omega | (simp; omega) | simp) (u64_all _) fun _ hs => ?_)
    refine O_nil (T_kp [2] rfl ?_)
    refine T_ret ?_
    have hs := hs.f3
    have hr := hs
    refine Rt_fin (vs := [_]) Tryz.results114 rfl ⟨ResOk_blk 1 hr Tryz.isAgg40 Tryz.sizeOf40 rfl (cs := (List.map u64V (notF c))) rfl (by first | omega | (simp; omega) | simp), trivial⟩ ?_
    try dsimp only [tup]
    exact ⟨_, _, hs.weak hs.le (Ghost.le.refl _) (List.sublist_append_left [_] _), notF c, _, _, _, rfl, rfl, by rw [hr0]; exact hout.not⟩

theorem rsf_1 {s : List UInt8} {q : Nat} (h : isB s q 42 = true) : sufP s q = .ok (some (0, -1, q + 1)) := by unfold sufP; rw [if_pos h]
theorem rsf_2 {s : List UInt8} {q : Nat} (h : isB s q 42 = false) (h2 : isB s q 43 = true) : sufP s q = .ok (some (1, -1, q + 1)) := by unfold sufP; rw [if_neg (by rw [h]; simp), if_pos h2]
theorem rsf_3 {s : List UInt8} {q : Nat} (h : isB s q 42 = false) (h2 : isB s q 43 = false) (h3 : isB s q 63 = true) : sufP s q = .ok (some (0, 1, q + 1)) := by unfold sufP; rw [if_neg (by rw [h]; simp), if_neg (by rw [h2]; simp), if_pos h3]
theorem rsf_0 {s : List UInt8} {q : Nat} (h : isB s q 42 = false) (h2 : isB s q 43 = false) (h3 : isB s q 63 = false) (h4 : isB s q 123 = false) : sufP s q = .ok none := by unfold sufP; rw [if_neg (by rw [h]; simp), if_neg (by rw [h2]; simp), if_neg (by rw [h3]; simp), if_neg (by rw [h4]; simp)]
theorem rsf_e {s : List UInt8} {q : Nat} {e : Er} (h : isB s q 42 = false) (h2 : isB s q 43 = false) (h3 : isB s q 63 = false) (h4 : isB s q 123 = true) (hb : boundsP s (q + 1) = .error e) : sufP s q = .error e := by unfold sufP; rw [if_neg (by rw [h]; simp), if_neg (by rw [h2]; simp), if_neg (by rw [h3]; simp), if_pos h4, hb]
theorem rsf_o {s : List UInt8} {q q2 : Nat} {a b : Int} (h : isB s q 42 = false) (h2 : isB s q 43 = false) (h3 : isB s q 63 = false) (h4 : isB s q 123 = true) (hb : boundsP s (q + 1) = .ok (a, b, q2)) : sufP s q = .ok (some (a, b, q2)) := by unfold sufP; rw [if_neg (by rw [h]; simp), if_neg (by rw [h2]; simp), if_neg (by rw [h3]; simp), if_pos h4, hb]
def ROut (s : List UInt8) (q : Nat) (a b : Int) (bo : Bool) (at_ : Nat) (er wh : Int) : Prop := (er = 0 ∧ wh = 0 ∧ bo = false ∧ sufP s q = .ok none ∧ at_ = q) ∨ (er = 0 ∧ wh = 0 ∧ bo = true ∧ sufP s q = .ok (some (a, b, at_)) ∧ q < at_ ∧ at_ ≤ s.length) ∨ (¬ er = 0 ∧ bo = true ∧ ∃ w : Nat, wh = (w : Int) ∧ sufP s q = .error (er, w) ∧ q < at_ ∧ at_ ≤ s.length)


set_option maxHeartbeats 4000000 in
set_option maxRecDepth 10000 in
theorem rrep_ok {G : Ghost} {p : Nat} {s : List UInt8} {q : Nat} {v : Value} (hq : q ≤ s.length) (hl : s.length ≤ 2000000) :
  FnOk Tryz.prog 102 [.pointer (some ⟨p, 0, none⟩)] G [.blk p 61 [.string ⟨s.toArray⟩, .int .i64 (q : Int), v, .int .i64 0, .int .i64 0]] fun r _ H' => ∃ (a b : Int) (bo : Bool) (at_ : Nat) (er wh : Int), H' = [.blk p 61 [.string ⟨s.toArray⟩, .int .i64 (at_ : Int), v, .int .i64 er, .int .i64 wh]] ∧ r = .tuple #[.agg #[.int .i64 8, .int .u64 0, .int .u64 0, .int .u64 0, .int .u64 0, .int .i64 0, .int .i64 0, .int .i64 a, .int .i64 b], .bool bo] ∧ ROut s q a b bo at_ er wh := by
 have hsz := bsz s
 refine FnOk.of_T [(0, _)] Tryz.func102 rfl Tryz.ntmps102 (by simp) rfl fun w0 hs => ?_
 refine T_seq (T_region rfl ?_)
 refine O_s (S_alloc hs Tryz.zeroValue42 (cs := [_, _, _, _, _, _, _, _, _]) rfl fun b2 _ hs => ?_)
 refine O_a rfl ?_
 refine O_nil (T_kp [0, 2] rfl ?_)
 refine T_seq (T_region rfl ?_)
 refine O_y hs (Y_build Tryz.zeroValue42 rfl PL42 rfl (cs := [_, _, _, _, _, _, _, _, _]) rfl ?_)
 refine O_s (S_alloc hs Tryz.zeroValue42 (cs := [_, _, _, _, _, _, _, _, _]) rfl fun b4 _ hs => ?_)
 refine O_n (S_stA hs Tryz.sizeOf42 rfl rfl (vs := [_, _, _, _, _, _, _, _, _]) rfl (rfl) (by simp) (cs' := [_, _, _, _, _, _, _, _, _]) rfl fun _ hs => ?_)
 refine O_nil (T_kp [0, 2, 4] rfl ?_)
 refine T_seq (T_seq (T_region rfl ?_))
 refine O_m rfl ?_
 cases hk8 : isB s q 42
 ·
  have hs := hs.f2
  refine O_s (S_call (H1 := [_]) hs rfl Tryz.func52 rfl (by kernel_rfl) (take_0f (q := q) (by omega) hl hk8) fun v1 G' H' _ hR hG8 hs => ?_)
  obtain ⟨rfl, rfl⟩ := hR
  replace hs : St _ _ [_, _, _] _ := hs
  refine O_nil (T_kp [0, 2, 4, 8] rfl ?_)
  refine T_condF rfl (T_skip ?_)
  refine T_seq (T_seq (T_region rfl ?_))
  refine O_m rfl ?_
  cases hk11 : isB s q 43
  ·
   refine O_s (S_call (H1 := [_]) hs rfl Tryz.func52 rfl (by kernel_rfl) (take_0f (q := q) (by omega) hl hk11) fun v2 G' H' _ hR hG11 hs => ?_)
   obtain ⟨rfl, rfl⟩ := hR
   replace hs : St _ _ [_, _, _] _ := hs
   refine O_nil (T_kp [0, 2, 4, 11] rfl ?_)
   refine T_condF rfl (T_skip ?_)
   refine T_seq (T_seq (T_region rfl ?_))
   refine O_m rfl ?_
   cases hk15 : isB s q 63
   ·
    refine O_s (S_call (H1 := [_]) hs rfl Tryz.func52 rfl (by kernel_rfl) (take_0f (q := q) (by omega) hl hk15) fun v3 G' H' _ hR hG15 hs => ?_)
    obtain ⟨rfl, rfl⟩ := hR
    replace hs : St _ _ [_, _, _] _ := hs
    refine O_nil (T_kp [0, 2, 4, 15] rfl ?_)
    refine T_condF rfl (T_skip ?_)
    refine T_seq (T_seq (T_region rfl ?_))
    refine O_m rfl ?_
    cases hk19 : isB s q 123
    ·
     refine O_s (S_call (H1 := [_]) hs rfl Tryz.func52 rfl (by kernel_rfl) (take_0f (q := q) (by omega) hl hk19) fun v4 G' H' _ hR hG19 hs => ?_)
     obtain ⟨rfl, rfl⟩ := hR
     replace hs : St _ _ [_, _, _] _ := hs
     refine O_y hs (Y_not rfl ?_)
     refine O_nil (T_kp [0, 2, 4, 20] rfl ?_)
     refine T_condT rfl (T_seq (T_region rfl ?_))
     refine O_y hs (Y_ldA 1 Tryz.isAgg42 Tryz.sizeOf42 rfl rfl (vs := [_, _, _, _, _, _, _, _, _]) rfl rfl ?_)
     have hs := hs.f2
     refine O_n (S_stA hs Tryz.sizeOf42 rfl rfl (vs := [_, _, _, _, _, _, _, _, _]) rfl (rfl) (by simp) (cs' := [_, _, _, _, _, _, _, _, _]) rfl fun _ hs => ?_)
     refine O_a rfl ?_
     refine O_nil (T_kp [2, 3] rfl ?_)
     refine T_ret ?_
     have hs := hs.f1
     have hr := hs
     refine Rt_fin (vs := [_, _]) Tryz.results102 rfl ⟨ResOk_blk 1 hr Tryz.isAgg42 Tryz.sizeOf42 rfl (cs := [_, _, _, _, _, _, _, _, _]) rfl rfl, rfl, trivial⟩ ?_
     try dsimp only [tup]
     exact ⟨_, _, hs.weak hs.le (Ghost.le.refl _) (List.sublist_append_left [_] _), _, _, _, _, _, _, rfl, rfl, .inl ⟨rfl, rfl, rfl, rsf_0 hk8 hk11 hk15 hk19, rfl⟩⟩
    ·
     have hlt19 := isB_lt hk19
     refine O_s (S_call (H1 := [_]) hs rfl Tryz.func52 rfl (by kernel_rfl) (take_0t (q := q) (by omega) hl hk19) fun v5 G' H' _ hR hG19 hs => ?_)
     obtain ⟨rfl, rfl⟩ := hR
     replace hs : St _ _ [_, _, _] _ := hs
     refine O_y hs (Y_not rfl ?_)
     refine O_nil (T_kp [0, 2, 4, 20] rfl ?_)
     refine T_condF rfl (T_skip ?_)
     refine T_seq (T_region rfl ?_)
     refine O_m rfl ?_
     refine O_s (S_call (H1 := [_]) hs rfl Tryz.func116 rfl (by kernel_rfl) (rnum_0 (q := (q + 1 : Nat)) (by omega) hl) fun v6 G' H' _ hR hG23 hs => ?_)
     obtain ⟨n23, at23, er23, wh23, rfl, rfl, ho23⟩ := hR
     replace hs : St _ _ [_, _, _] _ := hs
     rcases ho23 with ⟨rfl, rfl, m23, hm23, hc23⟩ | ⟨w23, hc23, rfl, he23, hq23, hz23, _, _⟩
     ·
      have hb23 := numP_ok hc23
      refine O_y hs (Y_fieldAddr FO42_4 rfl (m := 7) rfl ?_)
      have hs := hs.f1
      refine O_n (S_st hs Tryz.sizeOf3 rfl rfl rfl (by simp) (cs' := [_, _, _, _, _, _, _, _, _]) rfl fun _ hs => ?_)
      refine O_nil (T_kp [0, 2, 4] rfl ?_)
      refine T_seq (T_region rfl ?_)
      refine O_m rfl ?_
      cases hn13 : isB s at23 44
      ·
       have hehn13 := unexp_nz s at23
       have hs := hs.f1
       refine O_s (S_call (H1 := [_]) hs rfl Tryz.func113 rfl (by kernel_rfl) (need_0f (q := at23) (by omega) hl hn13) fun v7 G' H' _ hR hG26 hs => ?_)
       obtain rfl := hR
       replace hs : St _ _ [_, _, _] _ := hs
       refine O_nil (T_kp [0, 2, 4] rfl ?_)
       refine T_seq (T_seq (T_region rfl ?_))
       refine O_m rfl ?_
       refine O_s (S_call (H1 := [_]) hs rfl Tryz.func72 rfl (by kernel_rfl) (is_e (q := at23) (b := 125) (by omega) hl hehn13) fun v8 G' H' _ hR hG28 hs => ?_)
       obtain ⟨rfl, rfl⟩ := hR
       replace hs : St _ _ [_, _, _] _ := hs
       refine O_y hs (Y_not rfl ?_)
       refine O_nil (T_kp [0, 2, 4, 29] rfl ?_)
       refine T_condT rfl (T_seq (T_region rfl ?_))
       refine O_m rfl ?_
       refine O_y hs (Y_nil rfl ?_)
       refine O_y hs (Y_fieldAddr FO61_1 rfl (m := 1) rfl ?_)
       refine O_y hs (Y_ld 0 Tryz.isAgg3 rfl rfl rfl ?_)
       refine O_a rfl ?_
       refine O_nil (T_kp [0, 2, 4, 5] rfl ?_)
       refine T_seq (T_region rfl ?_)
       refine O_m rfl ?_
       refine O_s (S_call (H1 := [_]) hs rfl Tryz.func116 rfl (by kernel_rfl) (rnum_e (q := at23) (by omega) hl hehn13) fun v9 G' H' _ hR hG35 hs => ?_)
       obtain ⟨rfl, rfl⟩ := hR
       replace hs : St _ _ [_, _, _] _ := hs
       refine O_y hs (Y_fieldAddr FO42_5 rfl (m := 8) rfl ?_)
       have hs := hs.f1
       refine O_n (S_st hs Tryz.sizeOf3 rfl rfl rfl (by simp) (cs' := [_, _, _, _, _, _, _, _, _]) rfl fun _ hs => ?_)
       refine O_nil (T_kp [0, 2, 4, 5] rfl ?_)
       refine T_seq (T_region rfl ?_)
       refine O_m rfl ?_
       refine O_y hs (Y_nil rfl ?_)
       refine O_y hs (Y_fieldAddr FO61_3 rfl (m := 3) rfl ?_)
       refine O_y hs (Y_ld 1 Tryz.isAgg25 rfl rfl rfl ?_)
       refine O_y hs (Y_cmpF rfl rfl rfl (hehn13) ?_)
       refine O_m rfl ?_
       refine O_no 42 rfl rfl ?_
       refine O_no 42 rfl rfl ?_
       refine O_no 42 rfl rfl ?_
       refine O_no 42 rfl rfl ?_
       refine O_no 42 rfl rfl ?_
       refine O_y hs (Y_pickF rfl rfl ?_)
       refine O_nil (T_kp [0, 2, 4, 5, 48] rfl ?_)
       refine T_condF rfl (T_skip ?_)
       refine T_seq (T_region rfl ?_)
       refine O_m rfl ?_
       have hs := hs.f1
       refine O_s (S_call (H1 := [_]) hs rfl Tryz.func113 rfl (by kernel_rfl) (need_e (q := at23) (b := 125) (by omega) hl hehn13) fun v10 G' H' _ hR hG53 hs => ?_)
       obtain rfl := hR
       replace hs : St _ _ [_, _, _] _ := hs
       refine O_nil (T_kp [2, 4] rfl ?_)
       refine T_seq (T_region rfl ?_)
       refine O_y hs (Y_ldA 1 Tryz.isAgg42 Tryz.sizeOf42 rfl rfl (vs := [_, _, _, _, _, _, _, _, _]) rfl rfl ?_)
       have hs := hs.f2
       refine O_n (S_stA hs Tryz.sizeOf42 rfl rfl (vs := [_, _, _, _, _, _, _, _, _]) rfl (rfl) (by simp) (cs' := [_, _, _, _, _, _, _, _, _]) rfl fun _ hs => ?_)
       refine O_a rfl ?_
       refine O_nil (T_kp [2, 3] rfl ?_)
       refine T_ret ?_
       have hs := hs.f1
       have hr := hs
       refine Rt_fin (vs := [_, _]) Tryz.results102 rfl ⟨ResOk_blk 1 hr Tryz.isAgg42 Tryz.sizeOf42 rfl (cs := [_, _, _, _, _, _, _, _, _]) rfl rfl, rfl, trivial⟩ ?_
       try dsimp only [tup]
       exact ⟨_, _, hs.weak hs.le (Ghost.le.refl _) (List.sublist_append_left [_] _), _, _, _, _, _, _, rfl, rfl, .inr (.inr ⟨hehn13, rfl, _, rfl, rsf_e hk8 hk11 hk15 hk19 (bnd_2 hc23 hn13), by omega, by omega⟩)⟩
      ·
       have hlthn13 := isB_lt hn13
       have hs := hs.f1
       refine O_s (S_call (H1 := [_]) hs rfl Tryz.func113 rfl (by kernel_rfl) (need_0t (q := at23) (by omega) hl hn13) fun v11 G' H' _ hR hG26 hs => ?_)
       obtain rfl := hR
       replace hs : St _ _ [_, _, _] _ := hs
       refine O_nil (T_kp [0, 2, 4] rfl ?_)
       refine T_seq (T_seq (T_region rfl ?_))
       refine O_m rfl ?_
       refine O_s (S_call (H1 := [_]) hs rfl Tryz.func72 rfl (by kernel_rfl) (is_0 (q := (at23 + 1 : Nat)) (b := 125) (by omega) hl) fun v12 G' H' _ hR hG28 hs => ?_)
       obtain ⟨rfl, rfl⟩ := hR
       replace hs : St _ _ [_, _, _] _ := hs
       cases hi28 : isB s (at23 + 1 : Nat) 125
       ·
        refine O_y hs (Y_not rfl ?_)
        refine O_nil (T_kp [0, 2, 4, 29] rfl ?_)
        refine T_condT rfl (T_seq (T_region rfl ?_))
        refine O_m rfl ?_
        refine O_y hs (Y_nil rfl ?_)
        refine O_y hs (Y_fieldAddr FO61_1 rfl (m := 1) rfl ?_)
        refine O_y hs (Y_ld 0 Tryz.isAgg3 rfl rfl rfl ?_)
        refine O_a rfl ?_
        refine O_nil (T_kp [0, 2, 4, 5] rfl ?_)
        refine T_seq (T_region rfl ?_)
        refine O_m rfl ?_
        refine O_s (S_call (H1 := [_]) hs rfl Tryz.func116 rfl (by kernel_rfl) (rnum_0 (q := (at23 + 1 : Nat)) (by omega) hl) fun v13 G' H' _ hR hG35 hs => ?_)
        obtain ⟨n35, at35, er35, wh35, rfl, rfl, ho35⟩ := hR
        replace hs : St _ _ [_, _, _] _ := hs
        rcases ho35 with ⟨rfl, rfl, m35, hm35, hc35⟩ | ⟨w35, hc35, rfl, he35, hq35, hz35, _, _⟩
        ·
         have hb35 := numP_ok hc35
         refine O_y hs (Y_fieldAddr FO42_5 rfl (m := 8) rfl ?_)
         have hs := hs.f1
         refine O_n (S_st hs Tryz.sizeOf3 rfl rfl rfl (by simp) (cs' := [_, _, _, _, _, _, _, _, _]) rfl fun _ hs => ?_)
         refine O_nil (T_kp [0, 2, 4, 5] rfl ?_)
         refine T_seq (T_region rfl ?_)
         refine O_m rfl ?_
         refine O_y hs (Y_nil rfl ?_)
         refine O_y hs (Y_fieldAddr FO61_3 rfl (m := 3) rfl ?_)
         refine O_y hs (Y_ld 1 Tryz.isAgg25 rfl rfl rfl ?_)
         refine O_y hs (Y_cmpT rfl rfl rfl (rfl) ?_)
         refine O_m rfl ?_
         refine O_yy 42 hs rfl rfl (Y_fieldAddr FO42_5 rfl (m := 8) rfl ?_)
         refine O_yy 42 hs rfl rfl (Y_ld 0 Tryz.isAgg3 rfl rfl rfl ?_)
         refine O_yy 42 hs rfl rfl (Y_fieldAddr FO42_4 rfl (m := 7) rfl ?_)
         refine O_yy 42 hs rfl rfl (Y_ld 0 Tryz.isAgg3 rfl rfl rfl ?_)
         refine O_yy 42 hs rfl rfl (Y_cmpS rfl rfl rfl (fun h47 => ?_) (fun h47 => ?_))
         ·
          dsimp only [cmpP] at h47
          refine O_y hs (Y_pickT rfl rfl ?_)
          refine O_nil (T_kp [0, 2, 4, 5, 48] rfl ?_)
          refine T_condT rfl (T_region rfl ?_)
          refine O_m rfl ?_
          refine O_m rfl ?_
          have hef : ¬ (20 : Int) = 0 := by decide
          have hs := hs.f1
          refine O_s (S_call (H1 := [_]) hs rfl Tryz.func36 rfl (by kernel_rfl) (fail_0 (q := at35) (c := 20) (w := ((at23 + 1 : Nat) : Int)) (by omega) hl) fun v14 G' H' _ hR hG51 hs => ?_)
          obtain rfl := hR
          replace hs : St _ _ [_, _, _] _ := hs
          refine O_nil (T_kp [0, 2, 4] rfl ?_)
          refine T_seq (T_region rfl ?_)
          refine O_m rfl ?_
          refine O_s (S_call (H1 := [_]) hs rfl Tryz.func113 rfl (by kernel_rfl) (need_e (q := at35) (b := 125) (by omega) hl hef) fun v15 G' H' _ hR hG53 hs => ?_)
          obtain rfl := hR
          replace hs : St _ _ [_, _, _] _ := hs
          refine O_nil (T_kp [2, 4] rfl ?_)
          refine T_seq (T_region rfl ?_)
          refine O_y hs (Y_ldA 1 Tryz.isAgg42 Tryz.sizeOf42 rfl rfl (vs := [_, _, _, _, _, _, _, _, _]) rfl rfl ?_)
          have hs := hs.f2
          refine O_n (S_stA hs Tryz.sizeOf42 rfl rfl (vs := [_, _, _, _, _, _, _, _, _]) rfl (rfl) (by simp) (cs' := [_, _, _, _, _, _, _, _, _]) rfl fun _ hs => ?_)
          refine O_a rfl ?_
          refine O_nil (T_kp [2, 3] rfl ?_)
          refine T_ret ?_
          have hs := hs.f1
          have hr := hs
          refine Rt_fin (vs := [_, _]) Tryz.results102 rfl ⟨ResOk_blk 1 hr Tryz.isAgg42 Tryz.sizeOf42 rfl (cs := [_, _, _, _, _, _, _, _, _]) rfl rfl, rfl, trivial⟩ ?_
          try dsimp only [tup]
          exact ⟨_, _, hs.weak hs.le (Ghost.le.refl _) (List.sublist_append_left [_] _), _, _, _, _, _, _, rfl, rfl, .inr (.inr ⟨hef, rfl, _, rfl, rsf_e hk8 hk11 hk15 hk19 (bnd_5 hc23 hn13 hi28 hc35 (by omega)), by omega, by omega⟩)⟩
         ·
          dsimp only [cmpP] at h47
          refine O_y hs (Y_pickT rfl rfl ?_)
          refine O_nil (T_kp [0, 2, 4, 5, 48] rfl ?_)
          refine T_condF rfl (T_skip ?_)
          refine T_seq (T_region rfl ?_)
          refine O_m rfl ?_
          cases hn19 : isB s at35 125
          ·
           have hehn19 := unexp_nz s at35
           have hs := hs.f1
           refine O_s (S_call (H1 := [_]) hs rfl Tryz.func113 rfl (by kernel_rfl) (need_0f (q := at35) (by omega) hl hn19) fun v16 G' H' _ hR hG53 hs => ?_)
           obtain rfl := hR
           replace hs : St _ _ [_, _, _] _ := hs
           refine O_nil (T_kp [2, 4] rfl ?_)
           refine T_seq (T_region rfl ?_)
           refine O_y hs (Y_ldA 1 Tryz.isAgg42 Tryz.sizeOf42 rfl rfl (vs := [_, _, _, _, _, _, _, _, _]) rfl rfl ?_)
           have hs := hs.f2
           refine O_n (S_stA hs Tryz.sizeOf42 rfl rfl (vs := [_, _, _, _, _, _, _, _, _]) rfl (rfl) (by simp) (cs' := [_, _, _, _, _, _, _, _, _]) rfl fun _ hs => ?_)
           refine O_a rfl ?_
           refine O_nil (T_kp [2, 3] rfl ?_)
           refine T_ret ?_
           have hs := hs.f1
           have hr := hs
           refine Rt_fin (vs := [_, _]) Tryz.results102 rfl ⟨ResOk_blk 1 hr Tryz.isAgg42 Tryz.sizeOf42 rfl (cs := [_, _, _, _, _, _, _, _, _]) rfl rfl, rfl, trivial⟩ ?_
           try dsimp only [tup]
           exact ⟨_, _, hs.weak hs.le (Ghost.le.refl _) (List.sublist_append_left [_] _), _, _, _, _, _, _, rfl, rfl, .inr (.inr ⟨hehn19, rfl, _, rfl, rsf_e hk8 hk11 hk15 hk19 (bnd_6 hc23 hn13 hi28 hc35 (by omega) hn19), by omega, by omega⟩)⟩
          ·
           have hlthn19 := isB_lt hn19
           have hs := hs.f1
           refine O_s (S_call (H1 := [_]) hs rfl Tryz.func113 rfl (by kernel_rfl) (need_0t (q := at35) (by omega) hl hn19) fun v17 G' H' _ hR hG53 hs => ?_)
           obtain rfl := hR
           replace hs : St _ _ [_, _, _] _ := hs
           refine O_nil (T_kp [2, 4] rfl ?_)
           refine T_seq (T_region rfl ?_)
           refine O_y hs (Y_ldA 1 Tryz.isAgg42 Tryz.sizeOf42 rfl rfl (vs := [_, _, _, _, _, _, _, _, _]) rfl rfl ?_)
           have hs := hs.f2
           refine O_n (S_stA hs Tryz.sizeOf42 rfl rfl (vs := [_, _, _, _, _, _, _, _, _]) rfl (rfl) (by simp) (cs' := [_, _, _, _, _, _, _, _, _]) rfl fun _ hs => ?_)
           refine O_a rfl ?_
           refine O_nil (T_kp [2, 3] rfl ?_)
           refine T_ret ?_
           have hs := hs.f1
           have hr := hs
           refine Rt_fin (vs := [_, _]) Tryz.results102 rfl ⟨ResOk_blk 1 hr Tryz.isAgg42 Tryz.sizeOf42 rfl (cs := [_, _, _, _, _, _, _, _, _]) rfl rfl, rfl, trivial⟩ ?_
           try dsimp only [tup]
           exact ⟨_, _, hs.weak hs.le (Ghost.le.refl _) (List.sublist_append_left [_] _), _, _, _, _, _, _, rfl, rfl, .inr (.inl ⟨rfl, rfl, rfl, by rw [rsf_o hk8 hk11 hk15 hk19 (bnd_7 hc23 hn13 hi28 hc35 (by omega) hn19), hm23, hm35], by omega, by omega⟩)⟩
        ·
         refine O_y hs (Y_fieldAddr FO42_5 rfl (m := 8) rfl ?_)
         have hs := hs.f1
         refine O_n (S_st hs Tryz.sizeOf3 rfl rfl rfl (by simp) (cs' := [_, _, _, _, _, _, _, _, _]) rfl fun _ hs => ?_)
         refine O_nil (T_kp [0, 2, 4, 5] rfl ?_)
         refine T_seq (T_region rfl ?_)
         refine O_m rfl ?_
         refine O_y hs (Y_nil rfl ?_)
         refine O_y hs (Y_fieldAddr FO61_3 rfl (m := 3) rfl ?_)
         refine O_y hs (Y_ld 1 Tryz.isAgg25 rfl rfl rfl ?_)
         refine O_y hs (Y_cmpF rfl rfl rfl (he35) ?_)
         refine O_m rfl ?_
         refine O_no 42 rfl rfl ?_
         refine O_no 42 rfl rfl ?_
         refine O_no 42 rfl rfl ?_
         refine O_no 42 rfl rfl ?_
         refine O_no 42 rfl rfl ?_
         refine O_y hs (Y_pickF rfl rfl ?_)
         refine O_nil (T_kp [0, 2, 4, 5, 48] rfl ?_)
         refine T_condF rfl (T_skip ?_)
         refine T_seq (T_region rfl ?_)
         refine O_m rfl ?_
         have hs := hs.f1
         refine O_s (S_call (H1 := [_]) hs rfl Tryz.func113 rfl (by kernel_rfl) (need_e (q := at35) (b := 125) (by omega) hl he35) fun v18 G' H' _ hR hG53 hs => ?_)
         obtain rfl := hR
         replace hs : St _ _ [_, _, _] _ := hs
         refine O_nil (T_kp [2, 4] rfl ?_)
         refine T_seq (T_region rfl ?_)
         refine O_y hs (Y_ldA 1 Tryz.isAgg42 Tryz.sizeOf42 rfl rfl (vs := [_, _, _, _, _, _, _, _, _]) rfl rfl ?_)
         have hs := hs.f2
         refine O_n (S_stA hs Tryz.sizeOf42 rfl rfl (vs := [_, _, _, _, _, _, _, _, _]) rfl (rfl) (by simp) (cs' := [_, _, _, _, _, _, _, _, _]) rfl fun _ hs => ?_)
         refine O_a rfl ?_
         refine O_nil (T_kp [2, 3] rfl ?_)
         refine T_ret ?_
         have hs := hs.f1
         have hr := hs
         refine Rt_fin (vs := [_, _]) Tryz.results102 rfl ⟨ResOk_blk 1 hr Tryz.isAgg42 Tryz.sizeOf42 rfl (cs := [_, _, _, _, _, _, _, _, _]) rfl rfl, rfl, trivial⟩ ?_
         try dsimp only [tup]
         exact ⟨_, _, hs.weak hs.le (Ghost.le.refl _) (List.sublist_append_left [_] _), _, _, _, _, _, _, rfl, rfl, .inr (.inr ⟨he35, rfl, _, rfl, rsf_e hk8 hk11 hk15 hk19 (bnd_4 hc23 hn13 hi28 hc35), by omega, by omega⟩)⟩
       ·
        refine O_y hs (Y_not rfl ?_)
        refine O_nil (T_kp [0, 2, 4, 29] rfl ?_)
        refine T_condF rfl (T_skip ?_)
        refine T_seq (T_region rfl ?_)
        refine O_m rfl ?_
        cases hn19 : isB s (at23 + 1 : Nat) 125
        ·
         have hehn19 := unexp_nz s (at23 + 1 : Nat)
         refine O_s (S_call (H1 := [_]) hs rfl Tryz.func113 rfl (by kernel_rfl) (need_0f (q := (at23 + 1 : Nat)) (by omega) hl hn19) fun v19 G' H' _ hR hG53 hs => ?_)
         obtain rfl := hR
         replace hs : St _ _ [_, _, _] _ := hs
         refine O_nil (T_kp [2, 4] rfl ?_)
         refine T_seq (T_region rfl ?_)
         refine O_y hs (Y_ldA 1 Tryz.isAgg42 Tryz.sizeOf42 rfl rfl (vs := [_, _, _, _, _, _, _, _, _]) rfl rfl ?_)
         have hs := hs.f2
         refine O_n (S_stA hs Tryz.sizeOf42 rfl rfl (vs := [_, _, _, _, _, _, _, _, _]) rfl (rfl) (by simp) (cs' := [_, _, _, _, _, _, _, _, _]) rfl fun _ hs => ?_)
         refine O_a rfl ?_
         refine O_nil (T_kp [2, 3] rfl ?_)
         refine T_ret ?_
         have hs := hs.f1
         have hr := hs
         refine Rt_fin (vs := [_, _]) Tryz.results102 rfl ⟨ResOk_blk 1 hr Tryz.isAgg42 Tryz.sizeOf42 rfl (cs := [_, _, _, _, _, _, _, _, _]) rfl rfl, rfl, trivial⟩ ?_
         try dsimp only [tup]
         exact absurd (hi28.symm.trans hn19) (by simp)
        ·
         have hlthn19 := isB_lt hn19
         refine O_s (S_call (H1 := [_]) hs rfl Tryz.func113 rfl (by kernel_rfl) (need_0t (q := (at23 + 1 : Nat)) (by omega) hl hn19) fun v20 G' H' _ hR hG53 hs => ?_)
         obtain rfl := hR
         replace hs : St _ _ [_, _, _] _ := hs
         refine O_nil (T_kp [2, 4] rfl ?_)
         refine T_seq (T_region rfl ?_)
         refine O_y hs (Y_ldA 1 Tryz.isAgg42 Tryz.sizeOf42 rfl rfl (vs := [_, _, _, _, _, _, _, _, _]) rfl rfl ?_)
         have hs := hs.f2
         refine O_n (S_stA hs Tryz.sizeOf42 rfl rfl (vs := [_, _, _, _, _, _, _, _, _]) rfl (rfl) (by simp) (cs' := [_, _, _, _, _, _, _, _, _]) rfl fun _ hs => ?_)
         refine O_a rfl ?_
         refine O_nil (T_kp [2, 3] rfl ?_)
         refine T_ret ?_
         have hs := hs.f1
         have hr := hs
         refine Rt_fin (vs := [_, _]) Tryz.results102 rfl ⟨ResOk_blk 1 hr Tryz.isAgg42 Tryz.sizeOf42 rfl (cs := [_, _, _, _, _, _, _, _, _]) rfl rfl, rfl, trivial⟩ ?_
         try dsimp only [tup]
         exact ⟨_, _, hs.weak hs.le (Ghost.le.refl _) (List.sublist_append_left [_] _), _, _, _, _, _, _, rfl, rfl, .inr (.inl ⟨rfl, rfl, rfl, by rw [rsf_o hk8 hk11 hk15 hk19 (bnd_3 hc23 hn13 hn19), hm23], by omega, by omega⟩)⟩
     ·
      refine O_y hs (Y_fieldAddr FO42_4 rfl (m := 7) rfl ?_)
      have hs := hs.f1
      refine O_n (S_st hs Tryz.sizeOf3 rfl rfl rfl (by simp) (cs' := [_, _, _, _, _, _, _, _, _]) rfl fun _ hs => ?_)
      refine O_nil (T_kp [0, 2, 4] rfl ?_)
      refine T_seq (T_region rfl ?_)
      refine O_m rfl ?_
      have hs := hs.f1
      refine O_s (S_call (H1 := [_]) hs rfl Tryz.func113 rfl (by kernel_rfl) (need_e (q := at23) (b := 44) (by omega) hl he23) fun v21 G' H' _ hR hG26 hs => ?_)
      obtain rfl := hR
      replace hs : St _ _ [_, _, _] _ := hs
      refine O_nil (T_kp [0, 2, 4] rfl ?_)
      refine T_seq (T_seq (T_region rfl ?_))
      refine O_m rfl ?_
      refine O_s (S_call (H1 := [_]) hs rfl Tryz.func72 rfl (by kernel_rfl) (is_e (q := at23) (b := 125) (by omega) hl he23) fun v22 G' H' _ hR hG28 hs => ?_)
      obtain ⟨rfl, rfl⟩ := hR
      replace hs : St _ _ [_, _, _] _ := hs
      refine O_y hs (Y_not rfl ?_)
      refine O_nil (T_kp [0, 2, 4, 29] rfl ?_)
      refine T_condT rfl (T_seq (T_region rfl ?_))
      refine O_m rfl ?_
      refine O_y hs (Y_nil rfl ?_)
      refine O_y hs (Y_fieldAddr FO61_1 rfl (m := 1) rfl ?_)
      refine O_y hs (Y_ld 0 Tryz.isAgg3 rfl rfl rfl ?_)
      refine O_a rfl ?_
      refine O_nil (T_kp [0, 2, 4, 5] rfl ?_)
      refine T_seq (T_region rfl ?_)
      refine O_m rfl ?_
      refine O_s (S_call (H1 := [_]) hs rfl Tryz.func116 rfl (by kernel_rfl) (rnum_e (q := at23) (by omega) hl he23) fun v23 G' H' _ hR hG35 hs => ?_)
      obtain ⟨rfl, rfl⟩ := hR
      replace hs : St _ _ [_, _, _] _ := hs
      refine O_y hs (Y_fieldAddr FO42_5 rfl (m := 8) rfl ?_)
      have hs := hs.f1
      refine O_n (S_st hs Tryz.sizeOf3 rfl rfl rfl (by simp) (cs' := [_, _, _, _, _, _, _, _, _]) rfl fun _ hs => ?_)
      refine O_nil (T_kp [0, 2, 4, 5] rfl ?_)
      refine T_seq (T_region rfl ?_)
      refine O_m rfl ?_
      refine O_y hs (Y_nil rfl ?_)
      refine O_y hs (Y_fieldAddr FO61_3 rfl (m := 3) rfl ?_)
      refine O_y hs (Y_ld 1 Tryz.isAgg25 rfl rfl rfl ?_)
      refine O_y hs (Y_cmpF rfl rfl rfl (he23) ?_)
      refine O_m rfl ?_
      refine O_no 42 rfl rfl ?_
      refine O_no 42 rfl rfl ?_
      refine O_no 42 rfl rfl ?_
      refine O_no 42 rfl rfl ?_
      refine O_no 42 rfl rfl ?_
      refine O_y hs (Y_pickF rfl rfl ?_)
      refine O_nil (T_kp [0, 2, 4, 5, 48] rfl ?_)
      refine T_condF rfl (T_skip ?_)
      refine T_seq (T_region rfl ?_)
      refine O_m rfl ?_
      have hs := hs.f1
      refine O_s (S_call (H1 := [_]) hs rfl Tryz.func113 rfl (by kernel_rfl) (need_e (q := at23) (b := 125) (by omega) hl he23) fun v24 G' H' _ hR hG53 hs => ?_)
      obtain rfl := hR
      replace hs : St _ _ [_, _, _] _ := hs
      refine O_nil (T_kp [2, 4] rfl ?_)
      refine T_seq (T_region rfl ?_)
      refine O_y hs (Y_ldA 1 Tryz.isAgg42 Tryz.sizeOf42 rfl rfl (vs := [_, _, _, _, _, _, _, _, _]) rfl rfl ?_)
      have hs := hs.f2
      refine O_n (S_stA hs Tryz.sizeOf42 rfl rfl (vs := [_, _, _, _, _, _, _, _, _]) rfl (rfl) (by simp) (cs' := [_, _, _, _, _, _, _, _, _]) rfl fun _ hs => ?_)
      refine O_a rfl ?_
      refine O_nil (T_kp [2, 3] rfl ?_)
      refine T_ret ?_
      have hs := hs.f1
      have hr := hs
      refine Rt_fin (vs := [_, _]) Tryz.results102 rfl ⟨ResOk_blk 1 hr Tryz.isAgg42 Tryz.sizeOf42 rfl (cs := [_, _, _, _, _, _, _, _, _]) rfl rfl, rfl, trivial⟩ ?_
      try dsimp only [tup]
      exact ⟨_, _, hs.weak hs.le (Ghost.le.refl _) (List.sublist_append_left [_] _), _, _, _, _, _, _, rfl, rfl, .inr (.inr ⟨he23, rfl, _, rfl, rsf_e hk8 hk11 hk15 hk19 (bnd_1 hc23), by omega, by omega⟩)⟩
   ·
    have hlt15 := isB_lt hk15
    refine O_s (S_call (H1 := [_]) hs rfl Tryz.func52 rfl (by kernel_rfl) (take_0t (q := q) (by omega) hl hk15) fun v25 G' H' _ hR hG15 hs => ?_)
    obtain ⟨rfl, rfl⟩ := hR
    replace hs : St _ _ [_, _, _] _ := hs
    refine O_nil (T_kp [0, 2, 4, 15] rfl ?_)
    refine T_condT rfl (T_seq (T_region rfl ?_))
    refine O_y hs (Y_fieldAddr FO42_5 rfl (m := 8) rfl ?_)
    have hs := hs.f1
    refine O_n (S_st hs Tryz.sizeOf3 rfl rfl rfl (by simp) (cs' := [_, _, _, _, _, _, _, _, _]) rfl fun _ hs => ?_)
    refine O_nil (T_kp [2, 4] rfl ?_)
    refine T_seq (T_region rfl ?_)
    refine O_y hs (Y_ldA 0 Tryz.isAgg42 Tryz.sizeOf42 rfl rfl (vs := [_, _, _, _, _, _, _, _, _]) rfl rfl ?_)
    have hs := hs.f2
    refine O_n (S_stA hs Tryz.sizeOf42 rfl rfl (vs := [_, _, _, _, _, _, _, _, _]) rfl (rfl) (by simp) (cs' := [_, _, _, _, _, _, _, _, _]) rfl fun _ hs => ?_)
    refine O_a rfl ?_
    refine O_nil (T_kp [2, 3] rfl ?_)
    refine T_ret ?_
    have hs := hs.f2
    have hr := hs
    refine Rt_fin (vs := [_, _]) Tryz.results102 rfl ⟨ResOk_blk 1 hr Tryz.isAgg42 Tryz.sizeOf42 rfl (cs := [_, _, _, _, _, _, _, _, _]) rfl rfl, rfl, trivial⟩ ?_
    try dsimp only [tup]
    exact ⟨_, _, hs.weak hs.le (Ghost.le.refl _) (List.sublist_append_left [_] _), _, _, _, _, _, _, rfl, rfl, .inr (.inl ⟨rfl, rfl, rfl, rsf_3 hk8 hk11 hk15, by omega, by omega⟩)⟩
  ·
   have hlt11 := isB_lt hk11
   refine O_s (S_call (H1 := [_]) hs rfl Tryz.func52 rfl (by kernel_rfl) (take_0t (q := q) (by omega) hl hk11) fun v26 G' H' _ hR hG11 hs => ?_)
   obtain ⟨rfl, rfl⟩ := hR
   replace hs : St _ _ [_, _, _] _ := hs
   refine O_nil (T_kp [0, 2, 4, 11] rfl ?_)
   refine T_condT rfl (T_seq (T_region rfl ?_))
   refine O_y hs (Y_fieldAddr FO42_4 rfl (m := 7) rfl ?_)
   have hs := hs.f1
   refine O_n (S_st hs Tryz.sizeOf3 rfl rfl rfl (by simp) (cs' := [_, _, _, _, _, _, _, _, _]) rfl fun _ hs => ?_)
   refine O_nil (T_kp [2, 4] rfl ?_)
   refine T_seq (T_region rfl ?_)
   refine O_y hs (Y_ldA 0 Tryz.isAgg42 Tryz.sizeOf42 rfl rfl (vs := [_, _, _, _, _, _, _, _, _]) rfl rfl ?_)
   have hs := hs.f2
   refine O_n (S_stA hs Tryz.sizeOf42 rfl rfl (vs := [_, _, _, _, _, _, _, _, _]) rfl (rfl) (by simp) (cs' := [_, _, _, _, _, _, _, _, _]) rfl fun _ hs => ?_)
   refine O_a rfl ?_
   refine O_nil (T_kp [2, 3] rfl ?_)
   refine T_ret ?_
   have hs := hs.f2
   have hr := hs
   refine Rt_fin (vs := [_, _]) Tryz.results102 rfl ⟨ResOk_blk 1 hr Tryz.isAgg42 Tryz.sizeOf42 rfl (cs := [_, _, _, _, _, _, _, _, _]) rfl rfl, rfl, trivial⟩ ?_
   try dsimp only [tup]
   exact ⟨_, _, hs.weak hs.le (Ghost.le.refl _) (List.sublist_append_left [_] _), _, _, _, _, _, _, rfl, rfl, .inr (.inl ⟨rfl, rfl, rfl, rsf_2 hk8 hk11, by omega, by omega⟩)⟩
 ·
  have hlt8 := isB_lt hk8
  have hs := hs.f2
  refine O_s (S_call (H1 := [_]) hs rfl Tryz.func52 rfl (by kernel_rfl) (take_0t (q := q) (by omega) hl hk8) fun v27 G' H' _ hR hG8 hs => ?_)
  obtain ⟨rfl, rfl⟩ := hR
  replace hs : St _ _ [_, _, _] _ := hs
  refine O_nil (T_kp [0, 2, 4, 8] rfl ?_)
  refine T_condT rfl (T_seq (T_region rfl ?_))
  refine O_y hs (Y_ldA 1 Tryz.isAgg42 Tryz.sizeOf42 rfl rfl (vs := [_, _, _, _, _, _, _, _, _]) rfl rfl ?_)
  have hs := hs.f2
  refine O_n (S_stA hs Tryz.sizeOf42 rfl rfl (vs := [_, _, _, _, _, _, _, _, _]) rfl (rfl) (by simp) (cs' := [_, _, _, _, _, _, _, _, _]) rfl fun _ hs => ?_)
  refine O_a rfl ?_
  refine O_nil (T_kp [2, 3] rfl ?_)
  refine T_ret ?_
  have hs := hs.f1
  have hr := hs
  refine Rt_fin (vs := [_, _]) Tryz.results102 rfl ⟨ResOk_blk 1 hr Tryz.isAgg42 Tryz.sizeOf42 rfl (cs := [_, _, _, _, _, _, _, _, _]) rfl rfl, rfl, trivial⟩ ?_
  try dsimp only [tup]
  exact ⟨_, _, hs.weak hs.le (Ghost.le.refl _) (List.sublist_append_left [_] _), _, _, _, _, _, _, rfl, rfl, .inr (.inl ⟨rfl, rfl, rfl, rsf_1 hk8, by omega, by omega⟩)⟩

def Out (s : List UInt8) (q n0 K : Nat) (r : Except Er (Int × PS)) (a : Int) (at_ : Nat) (ns : List NodeV) (er wh : Int) : Prop := (er = 0 ∧ wh = 0 ∧ r = .ok (a, ⟨at_, ns⟩)) ∨ (¬ er = 0 ∧ q ≤ at_ ∧ at_ ≤ s.length ∧ ns.length ≤ n0 + 2 * (at_ - q) + K ∧ ∃ w : Nat, wh = (w : Int) ∧ r = .error (er, w))
theorem Out.err {s : List UInt8} {q n0 K : Nat} {r : Except Er (Int × PS)} {a : Int} {at_ w : Nat} {ns : List NodeV} {er : Int} (hr : r = .error (er, w)) (h0 : ¬ er = 0) (h1 : q ≤ at_) (h2 : at_ ≤ s.length) (h3 : ns.length ≤ n0 + 2 * (at_ - q) + K) : Out s q n0 K r a at_ ns er (w : Int) := .inr ⟨h0, h1, h2, h3, w, rfl, hr⟩
def PCR (fid K : Nat) (mdl : List UInt8 → Nat → PS → PRes) (s : List UInt8) (f : Nat) : Prop := ∀ (G : Ghost) (p : Nat) (v : Value) (q : Nat) (ns : List NodeV) (r0 : Except Er (Int × PS)), q ≤ s.length → s.length ≤ 2000000 → ns.length + 2 * (s.length - q) ≤ 10000000 → mdl s f ⟨q, ns⟩ = some r0 →
  FnOk Tryz.prog fid [.pointer (some ⟨p, 0, none⟩)] G [.blk p 61 [.string ⟨s.toArray⟩, .int .i64 (q : Int), v, .int .i64 0, .int .i64 0], .row 42 9 v ns.length (ns.flatMap nodeC)] fun r _ H' => ∃ (a : Int) (at_ : Nat) (v1 : Value) (ns1 : List NodeV) (er wh : Int), r = .int .i64 a ∧ H' = [.blk p 61 [.string ⟨s.toArray⟩, .int .i64 (at_ : Int), v1, .int .i64 er, .int .i64 wh], .row 42 9 v1 ns1.length (ns1.flatMap nodeC)] ∧ Out s q ns.length K r0 a at_ ns1 er wh
theorem Rest.er {α : Type} {r : Except Er (Int × PS)} {ra : Except Er α} {go : α → Prop} {e : Er} (h : Rest r ra go) (hX : ra = .error e) : r = .error e := by
  rcases h with ⟨e2, h3, h4⟩ | ⟨z, h3, _⟩
  · rw [h3] at hX; injection hX with hX; rw [h4, hX]
  · rw [h3] at hX; cases hX
def LI (s : List UInt8) (mdl : List UInt8 → Nat → Int → PS → PRes) (r : Except Er (Int × PS)) (q n0 K f : Nat) (a : Int) (at_ : Nat) (ns : List NodeV) (er wh : Int) : Prop := (er = 0 ∧ wh = 0 ∧ mdl s f a ⟨at_, ns⟩ = some r ∧ q ≤ at_ ∧ at_ ≤ s.length ∧ ns.length ≤ n0 + 2 * (at_ - q)) ∨ (¬ er = 0 ∧ f = 0 ∧ q ≤ at_ ∧ at_ ≤ s.length ∧ ns.length ≤ n0 + 2 * (at_ - q) + K ∧ ∃ w : Nat, wh = (w : Int) ∧ r = .error (er, w))
theorem LI.rng {s : List UInt8} {mdl : List UInt8 → Nat → Int → PS → PRes} {r : Except Er (Int × PS)} {q n0 K f : Nat} {a : Int} {at_ : Nat} {ns : List NodeV} {er wh : Int} (h : LI s mdl r q n0 K f a at_ ns er wh) : q ≤ at_ ∧ at_ ≤ s.length ∧ ns.length ≤ n0 + 2 * (at_ - q) + K := by
  rcases h with ⟨_, _, _, h1, h2, h3⟩ | ⟨_, _, h1, h2, h3, _⟩
  · exact ⟨h1, h2, by omega⟩
  · exact ⟨h1, h2, h3⟩
theorem LI.out {s : List UInt8} {mdl : List UInt8 → Nat → Int → PS → PRes} {r : Except Er (Int × PS)} {q n0 K f : Nat} {a : Int} {at_ : Nat} {ns : List NodeV} {er wh : Int} (h : LI s mdl r q n0 K f a at_ ns er wh) (hs : er = 0 → mdl s f a ⟨at_, ns⟩ = some r → r = .ok (a, ⟨at_, ns⟩)) : Out s q n0 K r a at_ ns er wh := by
  rcases h with ⟨h0, h1, h2, _⟩ | ⟨h0, _, h1, h2, h3, h4⟩
  · exact .inl ⟨h0, h1, hs h0 h2⟩
  · exact .inr ⟨h0, h1, h2, h3, h4⟩
theorem alt_end {s : List UInt8} {f : Nat} {l : Int} {st : PS} {r : Except Er (Int × PS)} (hr : altL s f l st = some r) (h : isB s st.p 124 = false) : r = .ok (l, st) := by
  obtain ⟨k, rfl⟩ := altL_pos hr; exact altL_stop hr h
theorem and_end {s : List UInt8} {f : Nat} {l : Int} {st : PS} {r : Except Er (Int × PS)} (hr : andL s f l st = some r) (h : isB s st.p 38 = false) : r = .ok (l, st) := by
  obtain ⟨k, rfl⟩ := andL_pos hr; exact andL_stop hr h
theorem cat_end {s : List UInt8} {f : Nat} {l : Int} {st : PS} {r : Except Er (Int × PS)} (hr : catL s f l st = some r) (h : stopB s st.p = true) : r = .ok (l, st) := by
  obtain ⟨k, rfl⟩ := catL_pos hr; exact catL_stop hr h
theorem isR_f {s : List UInt8} {er : Int} {q : Nat} {b : UInt8} (h : isR s er q b = false) (h0 : er = 0) : isB s q b = false := by subst h0; rwa [isR_ok] at h
theorem isB_other {s : List UInt8} {q : Nat} {b c : UInt8} (h : isB s q b = true) (hbc : ¬ b = c) : isB s q c = false := by
  unfold isB at h ⊢
  rw [beq_iff_eq] at h
  rw [h]; simpa using hbc
theorem rng_all : rangeF 0 255 = allC := by decide +kernel
theorem rng_one (b : UInt8) : rangeF b b = addF noC b := by
  revert b; exact u8_all (by decide +kernel)


set_option maxHeartbeats 2000000 in
set_option maxRecDepth 10000 in
theorem ralt_ok {s : List UInt8} {f : Nat} (ih : ∀ f', f' ≤ f → PCR 51 2 andF s (f')) : PCR 35 2 altF s (f + 1) := by
 intro G p v q ns r hq hl hn hr
 have hsz := bsz s
 show FnOk Tryz.prog 35 [.pointer (some ⟨p, 0, none⟩)] G [.blk p 61 [.string ⟨s.toArray⟩, .int .i64 (q : Int), v, .int .i64 0, .int .i64 0], .row 42 9 v ns.length (ns.flatMap nodeC)] fun r_ _ H' => ∃ (a : Int) (at_ : Nat) (v1 : Value) (ns1 : List NodeV) (er wh : Int), r_ = .int .i64 a ∧ H' = [.blk p 61 [.string ⟨s.toArray⟩, .int .i64 (at_ : Int), v1, .int .i64 er, .int .i64 wh], .row 42 9 v1 ns1.length (ns1.flatMap nodeC)] ∧ Out s q ns.length 2 r a at_ ns1 er wh
 obtain ⟨ra, hra, hco⟩ := alt_open hr
 refine FnOk.of_T [(0, _)] Tryz.func35 rfl Tryz.ntmps35 (by simp) rfl fun w0 hs => ?_
 refine T_seq (T_region rfl ?_)
 refine O_a rfl ?_
 refine O_nil (T_kp [0] rfl ?_)
 refine T_seq (T_region rfl ?_)
 refine O_m rfl ?_
 have hs := hs.f1
 have hs := hs.f1
 refine O_s (S_call (H1 := [_, _]) hs rfl Tryz.func51 rfl (by kernel_rfl) (ih f (Nat.le_refl _) _ p _ q ns ra (by omega) hl (by omega) hra) fun v1 G' H' _ hR hG6 hs => ?_)
 obtain ⟨a6, at6, w6, ns6, er6, wh6, rfl, rfl, ho6⟩ := hR
 replace hs : St _ _ [_, _] _ := hs
 rcases ho6 with ⟨rfl, rfl, hc6⟩ | ⟨he6, hp6, hz6, hm6, wq6, rfl, hc6⟩
 ·
  have hgo6 := hco.go hc6
  have hgd6 := (good_all s f).2.2.1 ⟨q, ns⟩ (by dsimp only; omega) a6 ⟨at6, ns6⟩ (by rw [hra, hc6])
  dsimp only at hgo6 hgd6
  refine O_a rfl ?_
  refine O_nil (T_kp [0, 3] rfl ?_)
  refine T_seq (T_block (T_loop (fun m E w => ∃ (f' : Nat) (a : Int) (at_ : Nat) (v1 : Value) (ns1 : List NodeV) (er wh : Int) (G' : Ghost), f' ≤ f ∧ LI s altL r q ns.length 2 f' a at_ ns1 er wh ∧ m = f' ∧ E = ⟨[], [(0, .pointer (some ⟨p, 0, none⟩)), (3, .int .i64 a)]⟩ ∧ St ⟨w0, G, feet [.blk p 61 [.string ⟨s.toArray⟩, .int .i64 (q : Int), v, .int .i64 0, .int .i64 0], .row 42 9 v ns.length (ns.flatMap nodeC)]⟩ G' [.blk p 61 [.string ⟨s.toArray⟩, .int .i64 (at_ : Int), v1, .int .i64 er, .int .i64 wh], .row 42 9 v1 ns1.length (ns1.flatMap nodeC)] w) (L := [(0, _), (3, _)]) ⟨rfl, rfl, trivial⟩ (⟨f, a6, _, _, _, 0, 0, _, Nat.le_refl _, .inl ⟨rfl, rfl, hgo6, by omega, by omega, by omega⟩, rfl, rfl, hs⟩) fun m E w hI => ?_))
  obtain ⟨f', a, at_, v1, ns1, er, wh, G', hf', hI, rfl, rfl, hs⟩ := hI
  have hrg := hI.rng
  refine T_seq (T_seq (T_region rfl ?_))
  refine O_m rfl ?_
  cases hk8 : isR s er at_ 124
  ·
   refine O_s (S_call (H1 := [_]) hs rfl Tryz.func52 rfl (by kernel_rfl) (take_f (q := at_) (er := er) (wh := wh) (by omega) hl hk8) fun v2 G' H' _ hR hG8 hs => ?_)
   obtain ⟨rfl, rfl⟩ := hR
   replace hs : St _ _ [_, _] _ := hs
   refine O_nil (T_kp [0, 3, 8] rfl ?_)
   refine T_condF rfl (T_exit ?_)
   refine T_seq (T_region rfl ?_)
   refine O_m rfl ?_
   refine O_a rfl ?_
   refine O_nil (T_kp [2] rfl ?_)
   refine T_ret ?_
   have hs := hs.f1
   have hs := hs.f1
   refine Rt_fin (vs := [_]) Tryz.results35 rfl ⟨rfl, trivial⟩ ?_
   try dsimp only [tup]
   exact ⟨_, _, hs, _, _, _, _, _, _, rfl, rfl, hI.out fun h0 h1 => alt_end h1 (isR_f hk8 h0)⟩
  ·
   have hlt8 := isR_lt hk8
   obtain ⟨h0, hk8⟩ := isR_t hk8
   obtain ⟨rfl, rfl, hgo, hg1, hg2, hg3⟩ := hI.resolve_right (fun h => h.1 h0)
   obtain ⟨f1, rfl⟩ := altL_pos hgo
   obtain ⟨ra2, hra2, hco2⟩ := altL_go hgo hk8
   refine O_s (S_call (H1 := [_]) hs rfl Tryz.func52 rfl (by kernel_rfl) (take_0t (q := at_) (by omega) hl hk8) fun v3 G' H' _ hR hG8 hs => ?_)
   obtain ⟨rfl, rfl⟩ := hR
   replace hs : St _ _ [_, _] _ := hs
   refine O_nil (T_kp [0, 3, 8] rfl ?_)
   refine T_condT rfl (T_skip ?_)
   refine T_block (T_seq (T_region rfl ?_))
   refine O_m rfl ?_
   have hs := hs.f1
   have hs := hs.f1
   refine O_s (S_call (H1 := [_, _]) hs rfl Tryz.func51 rfl (by kernel_rfl) (ih f1 (by omega) _ p _ (at_ + 1 : Nat) ns1 ra2 (by omega) hl (by omega) hra2) fun v4 G' H' _ hR hG10 hs => ?_)
   obtain ⟨a10, at10, w10, ns10, er10, wh10, rfl, rfl, ho10⟩ := hR
   replace hs : St _ _ [_, _] _ := hs
   rcases ho10 with ⟨rfl, rfl, hc10⟩ | ⟨he10, hp10, hz10, hm10, wq10, rfl, hc10⟩
   ·
    have hgo10 : altL s f1 (ns10.length : Int) ⟨at10, ns10 ++ [binN 5 a a10]⟩ = some r := hco2.go hc10
    have hgd10 := (good_all s f1).2.2.1 ⟨at_ + 1, ns1⟩ (by dsimp only; omega) a10 ⟨at10, ns10⟩ (hra2.trans (by rw [hc10]))
    dsimp only at hgd10
    refine O_a rfl ?_
    refine O_nil (T_kp [0, 3, 4] rfl ?_)
    refine T_region rfl ?_
    refine O_m rfl ?_
    refine O_m rfl ?_
    refine O_m rfl ?_
    refine O_y hs (Y_build Tryz.zeroValue42 rfl PL42 rfl (cs := [_, _, _, _, _, _, _, _, _]) rfl ?_)
    have hs := hs.f1
    have hs := hs.f1
    refine O_s (S_call (H1 := [_, _]) hs rfl Tryz.func53 rfl (by kernel_rfl) (rnode_ok (q := at10) (er := 0) (wh := 0) (ns := ns10) (n := (binN 5 a a10)) rfl (by omega)) fun v5 G' H' _ hR hG15 hs => ?_)
    obtain ⟨x15, rfl, rfl⟩ := hR
    replace hs : St _ _ [_, _] _ := hs
    refine O_a rfl ?_
    have hs := hs.f1
    have hs := hs.f1
    refine O_nil ⟨_, ?_, [(0, _), (3, _)], ⟨rfl, rfl, trivial⟩, ⟨f1, _, _, _, _, 0, 0, _, by omega, .inl ⟨rfl, rfl, hgo10, by omega, by omega, by rw [List.length_append]; simp only [List.length_singleton]; omega⟩, rfl, rfl, hs⟩⟩
    omega
   ·
    have hr010 := hco2.er hc10
    refine O_a rfl ?_
    refine O_nil (T_kp [0, 3, 4] rfl ?_)
    refine T_region rfl ?_
    refine O_m rfl ?_
    refine O_m rfl ?_
    refine O_m rfl ?_
    refine O_y hs (Y_build Tryz.zeroValue42 rfl PL42 rfl (cs := [_, _, _, _, _, _, _, _, _]) rfl ?_)
    have hs := hs.f1
    have hs := hs.f1
    refine O_s (S_call (H1 := [_, _]) hs rfl Tryz.func53 rfl (by kernel_rfl) (rnode_ok (q := at10) (er := er10) (wh := (wq10 : Int)) (ns := ns10) (n := (binN 5 a a10)) rfl (by omega)) fun v6 G' H' _ hR hG15 hs => ?_)
    obtain ⟨x15, rfl, rfl⟩ := hR
    replace hs : St _ _ [_, _] _ := hs
    refine O_a rfl ?_
    have hs := hs.f1
    have hs := hs.f1
    refine O_nil ⟨_, ?_, [(0, _), (3, _)], ⟨rfl, rfl, trivial⟩, ⟨0, _, _, _, _, _, _, _, Nat.zero_le _, .inr ⟨he10, rfl, by omega, by omega, by rw [List.length_append]; simp only [List.length_singleton]; omega, _, rfl, hr010⟩, rfl, rfl, hs⟩⟩
    omega
 ·
  have hr06 := hco.er hc6
  refine O_a rfl ?_
  refine O_nil (T_kp [0, 3] rfl ?_)
  refine T_seq (T_block (T_loop (fun m E w => ∃ (f' : Nat) (a : Int) (at_ : Nat) (v1 : Value) (ns1 : List NodeV) (er wh : Int) (G' : Ghost), f' ≤ f ∧ LI s altL r q ns.length 2 f' a at_ ns1 er wh ∧ m = f' ∧ E = ⟨[], [(0, .pointer (some ⟨p, 0, none⟩)), (3, .int .i64 a)]⟩ ∧ St ⟨w0, G, feet [.blk p 61 [.string ⟨s.toArray⟩, .int .i64 (q : Int), v, .int .i64 0, .int .i64 0], .row 42 9 v ns.length (ns.flatMap nodeC)]⟩ G' [.blk p 61 [.string ⟨s.toArray⟩, .int .i64 (at_ : Int), v1, .int .i64 er, .int .i64 wh], .row 42 9 v1 ns1.length (ns1.flatMap nodeC)] w) (L := [(0, _), (3, _)]) ⟨rfl, rfl, trivial⟩ (⟨0, a6, _, _, _, _, _, _, Nat.zero_le _, .inr ⟨he6, rfl, by omega, by omega, by omega, _, rfl, hr06⟩, rfl, rfl, hs⟩) fun m E w hI => ?_))
  obtain ⟨f', a, at_, v1, ns1, er, wh, G', hf', hI, rfl, rfl, hs⟩ := hI
  have hrg := hI.rng
  refine T_seq (T_seq (T_region rfl ?_))
  refine O_m rfl ?_
  cases hk8 : isR s er at_ 124
  ·
   refine O_s (S_call (H1 := [_]) hs rfl Tryz.func52 rfl (by kernel_rfl) (take_f (q := at_) (er := er) (wh := wh) (by omega) hl hk8) fun v7 G' H' _ hR hG8 hs => ?_)
   obtain ⟨rfl, rfl⟩ := hR
   replace hs : St _ _ [_, _] _ := hs
   refine O_nil (T_kp [0, 3, 8] rfl ?_)
   refine T_condF rfl (T_exit ?_)
   refine T_seq (T_region rfl ?_)
   refine O_m rfl ?_
   refine O_a rfl ?_
   refine O_nil (T_kp [2] rfl ?_)
   refine T_ret ?_
   have hs := hs.f1
   have hs := hs.f1
   refine Rt_fin (vs := [_]) Tryz.results35 rfl ⟨rfl, trivial⟩ ?_
   try dsimp only [tup]
   exact ⟨_, _, hs, _, _, _, _, _, _, rfl, rfl, hI.out fun h0 h1 => alt_end h1 (isR_f hk8 h0)⟩
  ·
   have hlt8 := isR_lt hk8
   obtain ⟨h0, hk8⟩ := isR_t hk8
   obtain ⟨rfl, rfl, hgo, hg1, hg2, hg3⟩ := hI.resolve_right (fun h => h.1 h0)
   obtain ⟨f1, rfl⟩ := altL_pos hgo
   obtain ⟨ra2, hra2, hco2⟩ := altL_go hgo hk8
   refine O_s (S_call (H1 := [_]) hs rfl Tryz.func52 rfl (by kernel_rfl) (take_0t (q := at_) (by omega) hl hk8) fun v8 G' H' _ hR hG8 hs => ?_)
   obtain ⟨rfl, rfl⟩ := hR
   replace hs : St _ _ [_, _] _ := hs
   refine O_nil (T_kp [0, 3, 8] rfl ?_)
   refine T_condT rfl (T_skip ?_)
   refine T_block (T_seq (T_region rfl ?_))
   refine O_m rfl ?_
   have hs := hs.f1
   have hs := hs.f1
   refine O_s (S_call (H1 := [_, _]) hs rfl Tryz.func51 rfl (by kernel_rfl) (ih f1 (by omega) _ p _ (at_ + 1 : Nat) ns1 ra2 (by omega) hl (by omega) hra2) fun v9 G' H' _ hR hG10 hs => ?_)
   obtain ⟨a10, at10, w10, ns10, er10, wh10, rfl, rfl, ho10⟩ := hR
   replace hs : St _ _ [_, _] _ := hs
   rcases ho10 with ⟨rfl, rfl, hc10⟩ | ⟨he10, hp10, hz10, hm10, wq10, rfl, hc10⟩
   ·
    have hgo10 : altL s f1 (ns10.length : Int) ⟨at10, ns10 ++ [binN 5 a a10]⟩ = some r := hco2.go hc10
    have hgd10 := (good_all s f1).2.2.1 ⟨at_ + 1, ns1⟩ (by dsimp only; omega) a10 ⟨at10, ns10⟩ (hra2.trans (by rw [hc10]))
    dsimp only at hgd10
    refine O_a rfl ?_
    refine O_nil (T_kp [0, 3, 4] rfl ?_)
    refine T_region rfl ?_
    refine O_m rfl ?_
    refine O_m rfl ?_
    refine O_m rfl ?_
    refine O_y hs (Y_build Tryz.zeroValue42 rfl PL42 rfl (cs := [_, _, _, _, _, _, _, _, _]) rfl ?_)
    have hs := hs.f1
    have hs := hs.f1
    refine O_s (S_call (H1 := [_, _]) hs rfl Tryz.func53 rfl (by kernel_rfl) (rnode_ok (q := at10) (er := 0) (wh := 0) (ns := ns10) (n := (binN 5 a a10)) rfl (by omega)) fun v10 G' H' _ hR hG15 hs => ?_)
    obtain ⟨x15, rfl, rfl⟩ := hR
    replace hs : St _ _ [_, _] _ := hs
    refine O_a rfl ?_
    have hs := hs.f1
    have hs := hs.f1
    refine O_nil ⟨_, ?_, [(0, _), (3, _)], ⟨rfl, rfl, trivial⟩, ⟨f1, _, _, _, _, 0, 0, _, by omega, .inl ⟨rfl, rfl, hgo10, by omega, by omega, by rw [List.length_append]; simp only [List.length_singleton]; omega⟩, rfl, rfl, hs⟩⟩
    omega
   ·
    have hr010 := hco2.er hc10
    refine O_a rfl ?_
    refine O_nil (T_kp [0, 3, 4] rfl ?_)
    refine T_region rfl ?_
    refine O_m rfl ?_
    refine O_m rfl ?_
    refine O_m rfl ?_
    refine O_y hs (Y_build Tryz.zeroValue42 rfl PL42 rfl (cs := [_, _, _, _, _, _, _, _, _]) rfl ?_)
    have hs := hs.f1
    have hs := hs.f1
    refine O_s (S_call (H1 := [_, _]) hs rfl Tryz.func53 rfl (by kernel_rfl) (rnode_ok (q := at10) (er := er10) (wh := (wq10 : Int)) (ns := ns10) (n := (binN 5 a a10)) rfl (by omega)) fun v11 G' H' _ hR hG15 hs => ?_)
    obtain ⟨x15, rfl, rfl⟩ := hR
    replace hs : St _ _ [_, _] _ := hs
    refine O_a rfl ?_
    have hs := hs.f1
    have hs := hs.f1
    refine O_nil ⟨_, ?_, [(0, _), (3, _)], ⟨rfl, rfl, trivial⟩, ⟨0, _, _, _, _, _, _, _, Nat.zero_le _, .inr ⟨he10, rfl, by omega, by omega, by rw [List.length_append]; simp only [List.length_singleton]; omega, _, rfl, hr010⟩, rfl, rfl, hs⟩⟩
    omega

set_option maxHeartbeats 2000000 in
set_option maxRecDepth 10000 in
theorem rand_ok {s : List UInt8} {f : Nat} (ih : ∀ f', f' ≤ f → PCR 71 2 catF s (f')) : PCR 51 2 andF s (f + 1) := by
 intro G p v q ns r hq hl hn hr
 have hsz := bsz s
 show FnOk Tryz.prog 51 [.pointer (some ⟨p, 0, none⟩)] G [.blk p 61 [.string ⟨s.toArray⟩, .int .i64 (q : Int), v, .int .i64 0, .int .i64 0], .row 42 9 v ns.length (ns.flatMap nodeC)] fun r_ _ H' => ∃ (a : Int) (at_ : Nat) (v1 : Value) (ns1 : List NodeV) (er wh : Int), r_ = .int .i64 a ∧ H' = [.blk p 61 [.string ⟨s.toArray⟩, .int .i64 (at_ : Int), v1, .int .i64 er, .int .i64 wh], .row 42 9 v1 ns1.length (ns1.flatMap nodeC)] ∧ Out s q ns.length 2 r a at_ ns1 er wh
 obtain ⟨ra, hra, hco⟩ := and_open hr
 refine FnOk.of_T [(0, _)] Tryz.func51 rfl Tryz.ntmps51 (by simp) rfl fun w0 hs => ?_
 refine T_seq (T_region rfl ?_)
 refine O_a rfl ?_
 refine O_nil (T_kp [0] rfl ?_)
 refine T_seq (T_region rfl ?_)
 refine O_m rfl ?_
 have hs := hs.f1
 have hs := hs.f1
 refine O_s (S_call (H1 := [_, _]) hs rfl Tryz.func71 rfl (by kernel_rfl) (ih f (Nat.le_refl _) _ p _ q ns ra (by omega) hl (by omega) hra) fun v1 G' H' _ hR hG6 hs => ?_)
 obtain ⟨a6, at6, w6, ns6, er6, wh6, rfl, rfl, ho6⟩ := hR
 replace hs : St _ _ [_, _] _ := hs
 rcases ho6 with ⟨rfl, rfl, hc6⟩ | ⟨he6, hp6, hz6, hm6, wq6, rfl, hc6⟩
 ·
  have hgo6 := hco.go hc6
  have hgd6 := (good_all s f).2.2.2.2.1 ⟨q, ns⟩ (by dsimp only; omega) a6 ⟨at6, ns6⟩ (by rw [hra, hc6])
  dsimp only at hgo6 hgd6
  refine O_a rfl ?_
  refine O_nil (T_kp [0, 3] rfl ?_)
  refine T_seq (T_block (T_loop (fun m E w => ∃ (f' : Nat) (a : Int) (at_ : Nat) (v1 : Value) (ns1 : List NodeV) (er wh : Int) (G' : Ghost), f' ≤ f ∧ LI s andL r q ns.length 2 f' a at_ ns1 er wh ∧ m = f' ∧ E = ⟨[], [(0, .pointer (some ⟨p, 0, none⟩)), (3, .int .i64 a)]⟩ ∧ St ⟨w0, G, feet [.blk p 61 [.string ⟨s.toArray⟩, .int .i64 (q : Int), v, .int .i64 0, .int .i64 0], .row 42 9 v ns.length (ns.flatMap nodeC)]⟩ G' [.blk p 61 [.string ⟨s.toArray⟩, .int .i64 (at_ : Int), v1, .int .i64 er, .int .i64 wh], .row 42 9 v1 ns1.length (ns1.flatMap nodeC)] w) (L := [(0, _), (3, _)]) ⟨rfl, rfl, trivial⟩ (⟨f, a6, _, _, _, 0, 0, _, Nat.le_refl _, .inl ⟨rfl, rfl, hgo6, by omega, by omega, by omega⟩, rfl, rfl, hs⟩) fun m E w hI => ?_))
  obtain ⟨f', a, at_, v1, ns1, er, wh, G', hf', hI, rfl, rfl, hs⟩ := hI
  have hrg := hI.rng
  refine T_seq (T_seq (T_region rfl ?_))
  refine O_m rfl ?_
  cases hk8 : isR s er at_ 38
  ·
   refine O_s (S_call (H1 := [_]) hs rfl Tryz.func52 rfl (by kernel_rfl) (take_f (q := at_) (er := er) (wh := wh) (by omega) hl hk8) fun v2 G' H' _ hR hG8 hs => ?_)
   obtain ⟨rfl, rfl⟩ := hR
   replace hs : St _ _ [_, _] _ := hs
   refine O_nil (T_kp [0, 3, 8] rfl ?_)
   refine T_condF rfl (T_exit ?_)
   refine T_seq (T_region rfl ?_)
   refine O_m rfl ?_
   refine O_a rfl ?_
   refine O_nil (T_kp [2] rfl ?_)
   refine T_ret ?_
   have hs := hs.f1
   have hs := hs.f1
   refine Rt_fin (vs := [_]) Tryz.results51 rfl ⟨rfl, trivial⟩ ?_
   try dsimp only [tup]
   exact ⟨_, _, hs, _, _, _, _, _, _, rfl, rfl, hI.out fun h0 h1 => and_end h1 (isR_f hk8 h0)⟩
  ·
   have hlt8 := isR_lt hk8
   obtain ⟨h0, hk8⟩ := isR_t hk8
   obtain ⟨rfl, rfl, hgo, hg1, hg2, hg3⟩ := hI.resolve_right (fun h => h.1 h0)
   obtain ⟨f1, rfl⟩ := andL_pos hgo
   obtain ⟨ra2, hra2, hco2⟩ := andL_go hgo hk8
   refine O_s (S_call (H1 := [_]) hs rfl Tryz.func52 rfl (by kernel_rfl) (take_0t (q := at_) (by omega) hl hk8) fun v3 G' H' _ hR hG8 hs => ?_)
   obtain ⟨rfl, rfl⟩ := hR
   replace hs : St _ _ [_, _] _ := hs
   refine O_nil (T_kp [0, 3, 8] rfl ?_)
   refine T_condT rfl (T_skip ?_)
   refine T_block (T_seq (T_region rfl ?_))
   refine O_m rfl ?_
   have hs := hs.f1
   have hs := hs.f1
   refine O_s (S_call (H1 := [_, _]) hs rfl Tryz.func71 rfl (by kernel_rfl) (ih f1 (by omega) _ p _ (at_ + 1 : Nat) ns1 ra2 (by omega) hl (by omega) hra2) fun v4 G' H' _ hR hG10 hs => ?_)
   obtain ⟨a10, at10, w10, ns10, er10, wh10, rfl, rfl, ho10⟩ := hR
   replace hs : St _ _ [_, _] _ := hs
   rcases ho10 with ⟨rfl, rfl, hc10⟩ | ⟨he10, hp10, hz10, hm10, wq10, rfl, hc10⟩
   ·
    have hgo10 : andL s f1 (ns10.length : Int) ⟨at10, ns10 ++ [binN 6 a a10]⟩ = some r := hco2.go hc10
    have hgd10 := (good_all s f1).2.2.2.2.1 ⟨at_ + 1, ns1⟩ (by dsimp only; omega) a10 ⟨at10, ns10⟩ (hra2.trans (by rw [hc10]))
    dsimp only at hgd10
    refine O_a rfl ?_
    refine O_nil (T_kp [0, 3, 4] rfl ?_)
    refine T_region rfl ?_
    refine O_m rfl ?_
    refine O_m rfl ?_
    refine O_m rfl ?_
    refine O_y hs (Y_build Tryz.zeroValue42 rfl PL42 rfl (cs := [_, _, _, _, _, _, _, _, _]) rfl ?_)
    have hs := hs.f1
    have hs := hs.f1
    refine O_s (S_call (H1 := [_, _]) hs rfl Tryz.func53 rfl (by kernel_rfl) (rnode_ok (q := at10) (er := 0) (wh := 0) (ns := ns10) (n := (binN 6 a a10)) rfl (by omega)) fun v5 G' H' _ hR hG15 hs => ?_)
    obtain ⟨x15, rfl, rfl⟩ := hR
    replace hs : St _ _ [_, _] _ := hs
    refine O_a rfl ?_
    have hs := hs.f1
    have hs := hs.f1
    refine O_nil ⟨_, ?_, [(0, _), (3, _)], ⟨rfl, rfl, trivial⟩, ⟨f1, _, _, _, _, 0, 0, _, by omega, .inl ⟨rfl, rfl, hgo10, by omega, by omega, by rw [List.length_append]; simp only [List.length_singleton]; omega⟩, rfl, rfl, hs⟩⟩
    omega
   ·
    have hr010 := hco2.er hc10
    refine O_a rfl ?_
    refine O_nil (T_kp [0, 3, 4] rfl ?_)
    refine T_region rfl ?_
    refine O_m rfl ?_
    refine O_m rfl ?_
    refine O_m rfl ?_
    refine O_y hs (Y_build Tryz.zeroValue42 rfl PL42 rfl (cs := [_, _, _, _, _, _, _, _, _]) rfl ?_)
    have hs := hs.f1
    have hs := hs.f1
    refine O_s (S_call (H1 := [_, _]) hs rfl Tryz.func53 rfl (by kernel_rfl) (rnode_ok (q := at10) (er := er10) (wh := (wq10 : Int)) (ns := ns10) (n := (binN 6 a a10)) rfl (by omega)) fun v6 G' H' _ hR hG15 hs => ?_)
    obtain ⟨x15, rfl, rfl⟩ := hR
    replace hs : St _ _ [_, _] _ := hs
    refine O_a rfl ?_
    have hs := hs.f1
    have hs := hs.f1
    refine O_nil ⟨_, ?_, [(0, _), (3, _)], ⟨rfl, rfl, trivial⟩, ⟨0, _, _, _, _, _, _, _, Nat.zero_le _, .inr ⟨he10, rfl, by omega, by omega, by rw [List.length_append]; simp only [List.length_singleton]; omega, _, rfl, hr010⟩, rfl, rfl, hs⟩⟩
    omega
 ·
  have hr06 := hco.er hc6
  refine O_a rfl ?_
  refine O_nil (T_kp [0, 3] rfl ?_)
  refine T_seq (T_block (T_loop (fun m E w => ∃ (f' : Nat) (a : Int) (at_ : Nat) (v1 : Value) (ns1 : List NodeV) (er wh : Int) (G' : Ghost), f' ≤ f ∧ LI s andL r q ns.length 2 f' a at_ ns1 er wh ∧ m = f' ∧ E = ⟨[], [(0, .pointer (some ⟨p, 0, none⟩)), (3, .int .i64 a)]⟩ ∧ St ⟨w0, G, feet [.blk p 61 [.string ⟨s.toArray⟩, .int .i64 (q : Int), v, .int .i64 0, .int .i64 0], .row 42 9 v ns.length (ns.flatMap nodeC)]⟩ G' [.blk p 61 [.string ⟨s.toArray⟩, .int .i64 (at_ : Int), v1, .int .i64 er, .int .i64 wh], .row 42 9 v1 ns1.length (ns1.flatMap nodeC)] w) (L := [(0, _), (3, _)]) ⟨rfl, rfl, trivial⟩ (⟨0, a6, _, _, _, _, _, _, Nat.zero_le _, .inr ⟨he6, rfl, by omega, by omega, by omega, _, rfl, hr06⟩, rfl, rfl, hs⟩) fun m E w hI => ?_))
  obtain ⟨f', a, at_, v1, ns1, er, wh, G', hf', hI, rfl, rfl, hs⟩ := hI
  have hrg := hI.rng
  refine T_seq (T_seq (T_region rfl ?_))
  refine O_m rfl ?_
  cases hk8 : isR s er at_ 38
  ·
   refine O_s (S_call (H1 := [_]) hs rfl Tryz.func52 rfl (by kernel_rfl) (take_f (q := at_) (er := er) (wh := wh) (by omega) hl hk8) fun v7 G' H' _ hR hG8 hs => ?_)
   obtain ⟨rfl, rfl⟩ := hR
   replace hs : St _ _ [_, _] _ := hs
   refine O_nil (T_kp [0, 3, 8] rfl ?_)
   refine T_condF rfl (T_exit ?_)
   refine T_seq (T_region rfl ?_)
   refine O_m rfl ?_
   refine O_a rfl ?_
   refine O_nil (T_kp [2] rfl ?_)
   refine T_ret ?_
   have hs := hs.f1
   have hs := hs.f1
   refine Rt_fin (vs := [_]) Tryz.results51 rfl ⟨rfl, trivial⟩ ?_
   try dsimp only [tup]
   exact ⟨_, _, hs, _, _, _, _, _, _, rfl, rfl, hI.out fun h0 h1 => and_end h1 (isR_f hk8 h0)⟩
  ·
   have hlt8 := isR_lt hk8
   obtain ⟨h0, hk8⟩ := isR_t hk8
   obtain ⟨rfl, rfl, hgo, hg1, hg2, hg3⟩ := hI.resolve_right (fun h => h.1 h0)
   obtain ⟨f1, rfl⟩ := andL_pos hgo
   obtain ⟨ra2, hra2, hco2⟩ := andL_go hgo hk8
   refine O_s (S_call (H1 := [_]) hs rfl Tryz.func52 rfl (by kernel_rfl) (take_0t (q := at_) (by omega) hl hk8) fun v8 G' H' _ hR hG8 hs => ?_)
   obtain ⟨rfl, rfl⟩ := hR
   replace hs : St _ _ [_, _] _ := hs
   refine O_nil (T_kp [0, 3, 8] rfl ?_)
   refine T_condT rfl (T_skip ?_)
   refine T_block (T_seq (T_region rfl ?_))
   refine O_m rfl ?_
   have hs := hs.f1
   have hs := hs.f1
   refine O_s (S_call (H1 := [_, _]) hs rfl Tryz.func71 rfl (by kernel_rfl) (ih f1 (by omega) _ p _ (at_ + 1 : Nat) ns1 ra2 (by omega) hl (by omega) hra2) fun v9 G' H' _ hR hG10 hs => ?_)
   obtain ⟨a10, at10, w10, ns10, er10, wh10, rfl, rfl, ho10⟩ := hR
   replace hs : St _ _ [_, _] _ := hs
   rcases ho10 with ⟨rfl, rfl, hc10⟩ | ⟨he10, hp10, hz10, hm10, wq10, rfl, hc10⟩
   ·
    have hgo10 : andL s f1 (ns10.length : Int) ⟨at10, ns10 ++ [binN 6 a a10]⟩ = some r := hco2.go hc10
    have hgd10 := (good_all s f1).2.2.2.2.1 ⟨at_ + 1, ns1⟩ (by dsimp only; omega) a10 ⟨at10, ns10⟩ (hra2.trans (by rw [hc10]))
    dsimp only at hgd10
    refine O_a rfl ?_
    refine O_nil (T_kp [0, 3, 4] rfl ?_)
    refine T_region rfl ?_
    refine O_m rfl ?_
    refine O_m rfl ?_
    refine O_m rfl ?_
    refine O_y hs (Y_build Tryz.zeroValue42 rfl PL42 rfl (cs := [_, _, _, _, _, _, _, _, _]) rfl ?_)
    have hs := hs.f1
    have hs := hs.f1
    refine O_s (S_call (H1 := [_, _]) hs rfl Tryz.func53 rfl (by kernel_rfl) (rnode_ok (q := at10) (er := 0) (wh := 0) (ns := ns10) (n := (binN 6 a a10)) rfl (by omega)) fun v10 G' H' _ hR hG15 hs => ?_)
    obtain ⟨x15, rfl, rfl⟩ := hR
    replace hs : St _ _ [_, _] _ := hs
    refine O_a rfl ?_
    have hs := hs.f1
    have hs := hs.f1
    refine O_nil ⟨_, ?_, [(0, _), (3, _)], ⟨rfl, rfl, trivial⟩, ⟨f1, _, _, _, _, 0, 0, _, by omega, .inl ⟨rfl, rfl, hgo10, by omega, by omega, by rw [List.length_append]; simp only [List.length_singleton]; omega⟩, rfl, rfl, hs⟩⟩
    omega
   ·
    have hr010 := hco2.er hc10
    refine O_a rfl ?_
    refine O_nil (T_kp [0, 3, 4] rfl ?_)
    refine T_region rfl ?_
    refine O_m rfl ?_
    refine O_m rfl ?_
    refine O_m rfl ?_
    refine O_y hs (Y_build Tryz.zeroValue42 rfl PL42 rfl (cs := [_, _, _, _, _, _, _, _, _]) rfl ?_)
    have hs := hs.f1
    have hs := hs.f1
    refine O_s (S_call (H1 := [_, _]) hs rfl Tryz.func53 rfl (by kernel_rfl) (rnode_ok (q := at10) (er := er10) (wh := (wq10 : Int)) (ns := ns10) (n := (binN 6 a a10)) rfl (by omega)) fun v11 G' H' _ hR hG15 hs => ?_)
    obtain ⟨x15, rfl, rfl⟩ := hR
    replace hs : St _ _ [_, _] _ := hs
    refine O_a rfl ?_
    have hs := hs.f1
    have hs := hs.f1
    refine O_nil ⟨_, ?_, [(0, _), (3, _)], ⟨rfl, rfl, trivial⟩, ⟨0, _, _, _, _, _, _, _, Nat.zero_le _, .inr ⟨he10, rfl, by omega, by omega, by rw [List.length_append]; simp only [List.length_singleton]; omega, _, rfl, hr010⟩, rfl, rfl, hs⟩⟩
    omega

end Go.Proofs.YtkmgbcjfidpmgaaGreatDoor
