import Derived.Test.YtcnljflihhggiaaGreatDoorExWalks1
import Derived.Test.YtcnljflihhggiaaGreatDoorProg
import Derived.Test.YtcnljflihhggiaaGreatDoorPlain
import Derived.Test.YtcnljflihhggiaaGreatDoorExThin
import Derived.Test.YtcnljflihhggiaaGreatDoorExOrders
import Derived.Test.YtcnljflihhggiaaGreatDoorShelf
namespace Go.Proofs.YtcnljflihhggiaaGreatDoor
open Go Go.Ex Go.RowKit
theorem FO36_0 : fieldOff Tryz.prog 36 0 = some 0 := by kernel_rfl
theorem FO73_0 : fieldOff Tryz.prog 73 0 = some 0 := by kernel_rfl
theorem FO73_1 : fieldOff Tryz.prog 73 1 = some 1 := by kernel_rfl
theorem TI9 : TI Tryz.prog 9 (.string ByteArray.empty) 1 16 := TI.of (by kernel_rfl)

theorem St_below {c : Ctx} {G : Ghost} {H : List Res} {w w' : World} (hs : St c G H w) (h : Below w.heap.size w w') : St c G H w' := by
  refine St.step (w := w) (H1 := []) (H2 := []) (G' := G) (by simpa using hs) h.os h.tape h.output h.size (fun k hk _ => h.block k hk) (Ghost.le.refl G) (fun k o hk => .inl hk) (fun k o hk hge => by rw [hs.ghost_none hge] at hk; cases hk) ?_ ?_ (by simp)
  · intro r hr; cases hr
  · intro r hr; cases hr
/-- The library's powers of ten lie at their variable. -/
def Tab10 (G : Ghost) : Prop := ∃ o, G 0 = some o ∧ ∀ w : World, w.heap[0]? = some o → Lib.TabIs Tryz.prog w "internal/strconv.uint64pow10" .u64 Lib.pow10Tab
theorem Tab10.mono {G G' : Ghost} (h : G.le G') (hT : Tab10 G) : Tab10 G' := by
  obtain ⟨o, h1, h2⟩ := hT; exact ⟨o, h _ _ h1, h2⟩
theorem grow_below (w : World) (k : Nat) (os : Array Obj) : Below w.heap.size w (Go.Sort.grow (w.drewN k) os) :=
  ⟨rfl, rfl, rfl, by show _ ≤ (w.heap ++ os).size; simp, fun i hi => by show (w.heap ++ os)[i]? = _; rw [Array.getElem?_append_left hi]⟩
theorem itoa_ok {G : Ghost} {n : Int} (hT : Tab10 G) (h0 : 0 ≤ n) (h1 : n ≤ 1048576) : FnOk Tryz.prog 29 [.int .i64 n] G [] fun r _ H' => H' = [] ∧ r = .string ⟨(numT n).toArray⟩ := fun w hw => by
  obtain ⟨o, hG, ho⟩ := hT
  refine (Tryz.strconv_Itoa n (by omega) (by omega) w (ho w (hw.ghost _ _ hG))).mono fun e w' he => ?_
  obtain ⟨rfl, k, os, rfl⟩ := he
  refine ⟨_, _, _, rfl, St_below hw (grow_below w k os), rfl, ?_⟩
  unfold Lib.itoa numT
  rw [if_neg (by omega)]
/-- The texts of a list of words. -/
def strV (l : List UInt8) : Value := .string ⟨l.toArray⟩
theorem str_one {l : List (List UInt8)} : ∀ y ∈ l.map strV, y.oneCell' = true := by
  intro y hy; obtain ⟨x, _, rfl⟩ := List.mem_map.1 hy; rfl
def joinT : List (List UInt8) → List UInt8
  | [] => []
  | [x] => x
  | x :: y :: t => x ++ 32 :: joinT (y :: t)
theorem join_eq : ∀ l : List (List UInt8), Lib.join (l.map fun x => ((⟨x.toArray⟩ : ByteArray)).data.toList) [32] = joinT l
  | [] => rfl
  | [x] => by simp [Lib.join, joinT]
  | x :: y :: t => by
    have ih := join_eq (y :: t)
    simp only [List.map_cons, Lib.join, List.intercalate, List.intersperse, List.flatten_cons] at ih ⊢
    rw [ih]; simp [joinT]
theorem row_cells {w : World} {e n : Nat} {v : Value} {xs : List Value} (h : Res.holds w (.row e 1 v n xs)) (h0 : 0 < n) : ∃ b cap, v = .slice (some ⟨b, 0, none⟩) n cap ∧ n ≤ cap ∧ b < w.heap.size ∧ ∀ (j : Nat) (u : Value), xs[j]? = some u → w.cell? ⟨b, j, none⟩ = some u := by
  have hh : w.ownsRow 0 e 1 v n xs := h
  rcases hh.2 with ⟨_, hn⟩ | ⟨b, cap, cur, rfl, _, hb, hnc, _, hsz, htk⟩
  · omega
  · refine ⟨b, cap, rfl, hnc, ?_, fun j u hj => ?_⟩
    · rcases Nat.lt_or_ge b w.heap.size with h' | h'
      · exact h'
      · rw [Array.getElem?_eq_none h'] at hb; cases hb
    · have hjn : j < n := by
        have := (List.getElem?_eq_some_iff.1 hj).1
        have hl := hh.1
        omega
      rw [← htk, List.getElem?_take_of_lt (by omega), Array.getElem?_toList] at hj
      simp [World.cell?, hb, hj]
theorem join_ok {G : Ghost} {v : Value} {l : List (List UInt8)} (h0 : 0 < l.length) (hl : l.length ≤ 1000) (hj : (joinT l).length ≤ 1000000000) :
    FnOk Tryz.prog 32 [v, .string ⟨#[32]⟩] G [.row 9 1 v l.length (l.map strV)] fun r _ H' => H' = [.row 9 1 v l.length (l.map strV)] ∧ r = .string ⟨(joinT l).toArray⟩ := fun w hw => by
  obtain ⟨b, cap, rfl, hcap, hb, hc⟩ := row_cells (hw.hold _ (List.mem_singleton.2 rfl)) h0
  have hlm : (l.map fun x => (⟨x.toArray⟩ : ByteArray)).length = l.length := by simp
  have hje := join_eq l
  have hmm : (l.map fun x => (⟨x.toArray⟩ : ByteArray)).map (·.data.toList) = l.map fun x => ((⟨x.toArray⟩ : ByteArray)).data.toList := by rw [List.map_map]; rfl
  have h := Tryz.strings_Join b 0 cap (l.map fun x => (⟨x.toArray⟩ : ByteArray)) ⟨#[32]⟩ w (fun j x hx => by
    rw [List.getElem?_map] at hx
    cases hlj : l[j]? with
    | none => rw [hlj] at hx; cases hx
    | some y =>
      rw [hlj] at hx; cases hx
      rw [Nat.zero_add]
      exact hc j _ (by rw [List.getElem?_map, hlj]; rfl)) hb (by omega) (by omega) (by rw [hmm]; show (Lib.join _ [32]).length ≤ _; rw [hje]; omega)
  rw [hlm] at h
  refine h.mono fun e w' he => ?_
  obtain ⟨rfl, hbe⟩ := he
  refine ⟨_, _, _, rfl, St_below hw hbe, rfl, ?_⟩
  rw [hmm]
  show Value.string ⟨(Lib.join _ [32]).toArray⟩ = _
  rw [hje]


theorem infoBLD : Tryz.prog.info? 73 = some (Tryz.prog.info? 73).get! := by kernel_rfl


set_option maxHeartbeats 400000 in
set_option maxRecDepth 10000 in
theorem cchk_0 {G : Ghost} {p : Nat} {v : Value} :
  FnOk Tryz.prog 55 [.pointer (some ⟨p, 0, none⟩)] G [.blk p 73 [.pointer none, v]] fun r _ H' => H' = [.blk p 73 [.pointer (some ⟨p, 0, none⟩), v]] := by
 refine FnOk.of_T [(0, _)] Tryz.func55 rfl Tryz.ntmps55 (by simp) rfl fun w0 hs => ?_
 refine T_seq (T_region rfl ?_)
 refine O_m rfl ?_
 refine O_y hs (Y_nil rfl ?_)
 refine O_y hs (Y_fieldAddr FO73_0 rfl (m := 0) rfl ?_)
 refine O_y hs (Y_ld 0 Tryz.isAgg71 rfl rfl rfl ?_)
 refine O_y hs (Y_ptrNilT Tryz.underlying71 rfl ?_)
 refine O_nil (T_kp [0, 6] rfl ?_)
 refine T_condT rfl (T_region rfl ?_)
 refine O_m rfl ?_
 refine O_m rfl ?_
 refine O_y hs (Y_toUnsafe 0 rfl Tryz.underlying71 Tryz.underlying150 infoBLD (by decide) (by simp) rfl ?_)
 refine O_y hs (Y_noEscape Tryz.func82 rfl rfl rfl (by kernel_rfl) rfl ?_)
 refine O_y hs (Y_fromUnsafe 0 rfl Tryz.underlying150 Tryz.underlying71 infoBLD (by kernel_rfl) rfl ?_)
 refine O_y hs (Y_nil rfl ?_)
 refine O_y hs (Y_fieldAddr FO73_0 rfl (m := 0) rfl ?_)
 refine O_n (S_st hs Tryz.sizeOf71 rfl rfl rfl (by simp) (cs' := [_, _]) rfl fun _ hs => ?_)
 refine O_nil (Rt_finN (vs := []) Tryz.results55 rfl trivial ?_)
 try dsimp only [tup]
 exact ⟨_, _, hs, rfl⟩

set_option maxHeartbeats 400000 in
set_option maxRecDepth 10000 in
theorem cchk_1 {G : Ghost} {p : Nat} {v : Value} :
  FnOk Tryz.prog 55 [.pointer (some ⟨p, 0, none⟩)] G [.blk p 73 [.pointer (some ⟨p, 0, none⟩), v]] fun r _ H' => H' = [.blk p 73 [.pointer (some ⟨p, 0, none⟩), v]] := by
 refine FnOk.of_T [(0, _)] Tryz.func55 rfl Tryz.ntmps55 (by simp) rfl fun w0 hs => ?_
 refine T_seq (T_region rfl ?_)
 refine O_m rfl ?_
 refine O_y hs (Y_nil rfl ?_)
 refine O_y hs (Y_fieldAddr FO73_0 rfl (m := 0) rfl ?_)
 refine O_y hs (Y_ld 0 Tryz.isAgg71 rfl rfl rfl ?_)
 refine O_y hs (Y_ptrNilF Tryz.underlying71 rfl ?_)
 refine O_nil (T_kp [0, 6] rfl ?_)
 refine T_condF rfl (T_seq (T_region rfl ?_))
 refine O_m rfl ?_
 refine O_y hs (Y_nil rfl ?_)
 refine O_y hs (Y_fieldAddr FO73_0 rfl (m := 0) rfl ?_)
 refine O_y hs (Y_ld 0 Tryz.isAgg71 rfl rfl rfl ?_)
 refine O_m rfl ?_
 refine O_y hs (Y_ptrNeF Tryz.underlying71 infoBLD rfl rfl ?_)
 refine O_nil (T_kp [19] rfl ?_)
 refine T_condF rfl (T_skip ?_)
 try dsimp only [Ex.sq, Ex.lp, Ex.bk]
 try rw [show Nat.beq _ _ = true from Nat.beq_refl _, cond_true]
 refine Rt_finN (vs := []) Tryz.results55 rfl trivial ?_
 try dsimp only [tup]
 exact ⟨_, _, hs, rfl⟩

theorem cchk_ok {G : Ghost} {p : Nat} {q v : Value} (hq : q = .pointer none ∨ q = .pointer (some ⟨p, 0, none⟩)) :
    FnOk Tryz.prog 55 [.pointer (some ⟨p, 0, none⟩)] G [.blk p 73 [q, v]] fun r _ H' => H' = [.blk p 73 [.pointer (some ⟨p, 0, none⟩), v]] := by
  rcases hq with rfl | rfl
  · exact cchk_0
  · exact cchk_1


set_option maxHeartbeats 400000 in
set_option maxRecDepth 10000 in
theorem wby_ok {G : Ghost} {p : Nat} {q v : Value} {l : List UInt8} (hq : q = .pointer none ∨ q = .pointer (some ⟨p, 0, none⟩)) {c : UInt8} (hl : l.length ≤ 1000000) :
  FnOk Tryz.prog 54 [.pointer (some ⟨p, 0, none⟩), .int .u8 (c.toNat : Int)] G [.blk p 73 [q, v], .row 5 1 v l.length (l.map byteV)] fun r _ H' => ∃ v1, H' = [.blk p 73 [.pointer (some ⟨p, 0, none⟩), v1], .row 5 1 v1 (l ++ [c]).length ((l ++ [c]).map byteV)] ∧ r = .nilIface := by
 refine FnOk.of_T [(0, _), (1, _)] Tryz.func54 rfl Tryz.ntmps54 (by simp) rfl fun w0 hs => ?_
 refine T_seq (T_region rfl ?_)
 refine O_a rfl ?_
 refine O_nil (T_kp [0, 1] rfl ?_)
 refine T_seq (T_region rfl ?_)
 refine O_m rfl ?_
 refine O_s (S_call (H1 := [_]) hs rfl Tryz.func55 rfl (by kernel_rfl) (cchk_ok hq) fun v1 G' H' _ hR hG6 hs => ?_)
 obtain rfl := hR
 replace hs : St _ _ [_, _] _ := hs
 refine O_nil (T_kp [0, 1] rfl ?_)
 refine T_seq (T_region rfl ?_)
 refine O_m rfl ?_
 refine O_m rfl ?_
 refine O_y hs (Y_nil rfl ?_)
 refine O_y hs (Y_fieldAddr FO73_1 rfl (m := 1) rfl ?_)
 refine O_y hs (Y_ld 0 Tryz.isAgg25 rfl rfl rfl ?_)
 refine O_m rfl ?_
 refine O_s (S_lit hs Tryz.underlying25 Tryz.sizeOf5 Tryz.zeroValue5 rfl rfl (by decide) (by decide) rfl (cs := [_]) rfl rfl fun v2 _ hs _ => ?_)
 obtain ⟨_, hG13, hl13, hs⟩ := hs.fixRow (noM2 0 1 hs rfl rfl)
 have hs := hs.f1
 refine O_s (S_append hs Tryz.underlying25 TI5 rfl (by decide) rfl rfl (hl13) (one1 rfl) (by omega) (by omega) fun v3 _ hs => ?_)
 refine O_y hs (Y_nil rfl ?_)
 refine O_y hs (Y_fieldAddr FO73_1 rfl (m := 1) rfl ?_)
 have hs := hs.f1
 refine O_n (S_st hs Tryz.sizeOf25 rfl rfl (hs.rowOne 1 rfl) (by simp) (cs' := [_, _]) rfl fun _ hs => ?_)
 refine O_nil (T_kp [] rfl ?_)
 refine T_seq (T_region rfl ?_)
 refine O_a rfl ?_
 refine O_nil (T_kp [4] rfl ?_)
 refine T_ret ?_
 have hs := hs.f1
 have hs := hs.f1
 refine Rt_fin (vs := [_]) Tryz.results54 rfl ⟨rfl, trivial⟩ ?_
 try dsimp only [tup]
 exact ⟨_, _, hs.weak hs.le (Ghost.le.refl _) (List.sublist_append_left [_, _] _), v3, by rw [List.length_append, List.map_append]; rfl, rfl⟩

set_option maxHeartbeats 400000 in
set_option maxRecDepth 10000 in
theorem wst_ok {G : Ghost} {p : Nat} {q v : Value} {l : List UInt8} (hq : q = .pointer none ∨ q = .pointer (some ⟨p, 0, none⟩)) {s : List UInt8} (hl : l.length ≤ 1000000) (hls : s.length ≤ 1000000) :
  FnOk Tryz.prog 31 [.pointer (some ⟨p, 0, none⟩), .string ⟨s.toArray⟩] G [.blk p 73 [q, v], .row 5 1 v l.length (l.map byteV)] fun r _ H' => ∃ v1, H' = [.blk p 73 [.pointer (some ⟨p, 0, none⟩), v1], .row 5 1 v1 (l ++ s).length ((l ++ s).map byteV)] ∧ r = .tuple #[.int .i64 ((s.length : Nat) : Int), .nilIface] := by
 refine FnOk.of_T [(0, _), (1, _)] Tryz.func31 rfl Tryz.ntmps31 (by simp) rfl fun w0 hs => ?_
 refine T_seq (T_region rfl ?_)
 refine O_a rfl ?_
 refine O_a rfl ?_
 refine O_nil (T_kp [0, 1] rfl ?_)
 refine T_seq (T_region rfl ?_)
 refine O_m rfl ?_
 refine O_s (S_call (H1 := [_]) hs rfl Tryz.func55 rfl (by kernel_rfl) (cchk_ok hq) fun v1 G' H' _ hR hG7 hs => ?_)
 obtain rfl := hR
 replace hs : St _ _ [_, _] _ := hs
 refine O_nil (T_kp [0, 1] rfl ?_)
 refine T_seq (T_region rfl ?_)
 refine O_m rfl ?_
 refine O_m rfl ?_
 refine O_y hs (Y_nil rfl ?_)
 refine O_y hs (Y_fieldAddr FO73_1 rfl (m := 1) rfl ?_)
 refine O_y hs (Y_ld 0 Tryz.isAgg25 rfl rfl rfl ?_)
 refine O_m rfl ?_
 have hs := hs.f1
 refine O_s (S_appendStr hs Tryz.underlying25 Tryz.underlying9 TI5 rfl rfl (by omega) fun v2 _ hs => ?_)
 refine O_y hs (Y_nil rfl ?_)
 refine O_y hs (Y_fieldAddr FO73_1 rfl (m := 1) rfl ?_)
 have hs := hs.f1
 refine O_n (S_st hs Tryz.sizeOf25 rfl rfl (hs.rowOne 1 rfl) (by simp) (cs' := [_, _]) rfl fun _ hs => ?_)
 refine O_nil (T_kp [1] rfl ?_)
 refine T_seq (T_region rfl ?_)
 refine O_m rfl ?_
 refine O_y hs (Y_lenS Tryz.underlying9 rfl ?_)
 refine O_a rfl ?_
 refine O_a rfl ?_
 refine O_nil (T_kp [4, 5] rfl ?_)
 refine T_ret ?_
 have hs := hs.f1
 have hs := hs.f1
 refine Rt_fin (vs := [_, _]) Tryz.results31 rfl ⟨rfl, rfl, trivial⟩ ?_
 try dsimp only [tup]
 exact ⟨_, _, hs.weak hs.le (Ghost.le.refl _) (List.sublist_append_left [_, _] _), v2, by rw [List.length_append, List.map_append], by rw [bsz]⟩

set_option maxHeartbeats 400000 in
set_option maxRecDepth 10000 in
theorem bstr_ok {G : Ghost} {p : Nat} {q v : Value} {l : List UInt8} (h0 : l ≠ []) (hl : l.length ≤ 1000000000) :
  FnOk Tryz.prog 33 [.pointer (some ⟨p, 0, none⟩)] G [.blk p 73 [q, v], .row 5 1 v l.length (l.map byteV)] fun r _ H' => H' = [] ∧ r = .string ⟨l.toArray⟩ := by
 have hl0 : 0 < l.length := by rcases Nat.eq_zero_or_pos l.length with h | h; exact absurd (List.length_eq_zero_iff.1 h) h0; exact h
 suffices hh : ∀ w : World, St ⟨w, G, feet [.blk p 73 [q, v], .row 5 1 v l.length (l.map byteV)]⟩ G [.blk p 73 [q, v], .row 5 1 v l.length (l.map byteV)] w → Calls Tryz.prog 33 #[.pointer (some ⟨p, 0, none⟩)] w fun e w' => ∃ r G' H', e = .returned r ∧ St ⟨w, G, feet [.blk p 73 [q, v], .row 5 1 v l.length (l.map byteV)]⟩ G' H' w' ∧ H' = [] ∧ r = .string ⟨l.toArray⟩ from hh
 intro w hw
 obtain ⟨rb, cap, rfl, hcap⟩ := hw.rowForm 1 rfl hl0
 revert w
 suffices hh : FnOk Tryz.prog 33 [.pointer (some ⟨p, 0, none⟩)] G [.blk p 73 [q, .slice (some ⟨rb, 0, none⟩) l.length cap], .row 5 1 (.slice (some ⟨rb, 0, none⟩) l.length cap) l.length (l.map byteV)] fun r _ H' => H' = [] ∧ r = .string ⟨l.toArray⟩ from fun w hw => hh w hw
 refine FnOk.of_T [(0, _)] Tryz.func33 rfl Tryz.ntmps33 (by simp) rfl fun w0 hs => ?_
 refine T_seq (T_region rfl ?_)
 refine O_a rfl ?_
 refine O_nil (T_kp [0] rfl ?_)
 refine T_seq (T_drawS [0, 1, 2, 3, 4, 5, 6, 7, 8, 9] hs (by kernel_rfl) ?_)
 replace hs := hs.drew
 refine A_take 0 rfl (by kernel_rfl) rfl hs (Y_move rfl ?_)
 refine A_take 1 rfl (by kernel_rfl) rfl hs (Y_nil rfl ?_)
 refine A_take 2 rfl (by kernel_rfl) rfl hs (Y_fieldAddr FO73_1 rfl (m := 1) rfl ?_)
 refine A_take 3 rfl (by kernel_rfl) rfl hs (Y_ld 0 Tryz.isAgg25 rfl rfl rfl ?_)
 refine A_take 4 rfl (by kernel_rfl) rfl hs (Y_sliceData rfl (by omega) ?_)
 refine A_take 5 rfl (by kernel_rfl) rfl hs (Y_move rfl ?_)
 refine A_take 6 rfl (by kernel_rfl) rfl hs (Y_nil rfl ?_)
 refine A_take 7 rfl (by kernel_rfl) rfl hs (Y_fieldAddr FO73_1 rfl (m := 1) rfl ?_)
 refine A_take 8 rfl (by kernel_rfl) rfl hs (Y_ld 0 Tryz.isAgg25 rfl rfl rfl ?_)
 refine A_take 9 rfl (by kernel_rfl) rfl hs (Y_len Tryz.underlying25 rfl ?_)
 have hs := hs.f1
 refine A_tail 10 rfl (by kernel_rfl) (by kernel_rfl) rfl (S_unsafeString hs Tryz.underlying109 (by kernel_rfl) h0 (by omega) rfl rfl fun _ hs => ?_)
 refine A_tail 11 rfl (by kernel_rfl) (by kernel_rfl) rfl (S_y hs rfl (Y_assign rfl ?_))
 refine A_done (by kernel_rfl) (T_kp [2] rfl ?_)
 refine T_ret ?_
 refine Rt_fin (vs := [_]) Tryz.results33 rfl ⟨rfl, trivial⟩ ?_
 try dsimp only [tup]
 exact ⟨_, _, hs.done, rfl, rfl⟩

theorem hexD_at {n : Nat} (h : n < 16) : (⟨#[48, 49, 50, 51, 52, 53, 54, 55, 56, 57, 97, 98, 99, 100, 101, 102]⟩ : ByteArray)[n]? = some (hexD n) := by
  refine str_at (s := [48, 49, 50, 51, 52, 53, 54, 55, 56, 57, 97, 98, 99, 100, 101, 102]) ?_
  exact (by decide : ∀ n : Fin 16, ([48, 49, 50, 51, 52, 53, 54, 55, 56, 57, 97, 98, 99, 100, 101, 102] : List UInt8)[n.val]? = some (hexD n.val)) ⟨n, h⟩
theorem shr_16 (x : UInt8) : ((x.toNat : Int)).fdiv (2 ^ (min (4 : Int).toNat IntKind.u8.bits)) = ((x.toNat / 16 : Nat) : Int) := by
  show ((x.toNat : Int)).fdiv 16 = _
  rw [Int.fdiv_eq_ediv_of_nonneg _ (by decide)]; omega
theorem and_15 : ∀ x : UInt8, bitsI .and .u8 (x.toNat : Int) 15 = ((x.toNat % 16 : Nat) : Int) := u8_all (by decide +kernel)
theorem hexT_nil {b : List UInt8} (h : b.length = 0) : hexT b = [45] := if_pos h
theorem hexT_some {b : List UInt8} (h : ¬ b.length = 0) : hexT b = hexP b := if_neg h


set_option maxHeartbeats 400000 in
set_option maxRecDepth 10000 in
theorem hex_ok {G : Ghost} {v : Value} {b : List UInt8} (hb : Bytes G v b) (hl : b.length ≤ 400000) :
  FnOk Tryz.prog 30 [v] G [] fun r _ H' => H' = [] ∧ r = .string ⟨(hexT b).toArray⟩ := by
 obtain ⟨A, cap, rfl, _⟩ := id hb
 refine FnOk.of_T [(0, _)] Tryz.func30 rfl Tryz.ntmps30 (by simp) rfl fun w0 hs => ?_
 have hb0 := hb
 refine T_seq (T_region rfl ?_)
 refine O_a rfl ?_
 refine O_nil (T_kp [0] rfl ?_)
 refine T_seq (T_seq (T_region rfl ?_))
 refine O_m rfl ?_
 refine O_y hs (Y_len Tryz.underlying25 rfl ?_)
 refine O_y hs (Y_cmpS rfl rfl rfl (fun h8 => ?_) (fun h8 => ?_))
 ·
  dsimp only [cmpP] at h8
  refine O_nil (T_kp [0, 8] rfl ?_)
  refine T_condT rfl (T_seq (T_region rfl ?_))
  refine O_a rfl ?_
  refine O_nil (T_kp [2] rfl ?_)
  refine T_ret ?_
  refine Rt_fin (vs := [_]) Tryz.results30 rfl ⟨rfl, trivial⟩ ?_
  try dsimp only [tup]
  exact ⟨_, [], hs.done, rfl, by rw [hexT_nil (by omega)]⟩
 ·
  dsimp only [cmpP] at h8
  refine O_nil (T_kp [0, 8] rfl ?_)
  refine T_condF rfl (T_skip ?_)
  refine T_seq (T_region rfl ?_)
  refine O_s (S_alloc hs Tryz.zeroValue73 (cs := [_, _]) rfl fun b3 _ hs => ?_)
  refine O_nil (T_kp [0, 3] rfl ?_)
  refine T_seq (T_seq (T_region rfl ?_))
  refine O_m rfl ?_
  refine O_y hs (Y_len Tryz.underlying25 rfl ?_)
  refine O_m rfl ?_
  refine O_nil (T_kp [3, 9, 10, 11] rfl ?_)
  have hs := hs.nilRow 5 1
  have hs := hs.f1
  refine T_block (T_loop (fun m E w => ∃ (k : Nat) (q v : Value) (G2 : Ghost), k ≤ b.length ∧ (q = .pointer none ∨ q = .pointer (some ⟨b3, 0, none⟩)) ∧ m = b.length - k ∧ E = ⟨[], [(3, .pointer (some ⟨b3, 0, none⟩)), (9, (.slice A b.length cap)), (10, .int .i64 ((b.length : Nat) : Int)), (11, .int .i64 (k : Int))]⟩ ∧ St ⟨w0, G, feet []⟩ G2 [.blk b3 73 [q, v], .row 5 1 v (hexP (b.take k)).length ((hexP (b.take k)).map byteV)] w) (L := [(3, _), (9, _), (10, _), (11, _)]) ⟨rfl, rfl, rfl, rfl, trivial⟩ (⟨0, _, _, _, by omega, .inl rfl, rfl, rfl, hs⟩) fun m E w hI => ?_)
  obtain ⟨k, q, v, G2, hk, hbq, rfl, rfl, hs⟩ := hI
  have hb := hb0.mono hs.le
  refine T_seq (T_region rfl ?_)
  refine O_y hs (Y_cmpS rfl rfl rfl (fun h12 => ?_) (fun h12 => ?_))
  ·
   dsimp only [cmpP] at h12
   refine O_nil (T_kp [3, 9, 10, 11, 12] rfl ?_)
   refine T_seq (T_condT rfl (T_skip ?_))
   refine T_seq (T_block (T_seq (T_region rfl ?_)))
   refine O_y hs (Y_idxB hb k Tryz.underlying25 Tryz.sizeOf5 rfl rfl rfl (by omega) fun p13 hp13 => ?_)
   refine O_y hs (Y_ldG Tryz.isAgg5 rfl (hp13) ?_)
   refine O_a rfl ?_
   refine O_nil (T_kp [3, 5, 9, 10, 11] rfl ?_)
   refine T_seq (T_region rfl ?_)
   refine O_m rfl ?_
   refine O_y hs (Y_shr (c := (((b[k]'(by omega)).toNat / 16 : Nat) : Int)) rfl rfl (by decide) (shr_16 _) ?_)
   refine O_y hs (Y_idxStr (b := (hexD ((b[k]'(by omega)).toNat / 16))) ((b[k]'(by omega)).toNat / 16) Tryz.underlying9 rfl rfl rfl (hexD_at (by have := (b[k]'(by omega)).toNat_lt; omega)) ?_)
   have hs := hs.f1
   have hs := hs.f1
   refine O_s (S_call (H1 := [_, _]) hs rfl Tryz.func54 rfl (by kernel_rfl) (wby_ok (c := (hexD ((b[k]'(by omega)).toNat / 16))) hbq (by have := hexP_len (b.take k); rw [List.length_take] at this; omega)) fun v1 G' H' _ hR hG18 hs => ?_)
   obtain ⟨w18, rfl, rfl⟩ := hR
   replace hs : St _ _ [_, _] _ := hs
   replace hb := hb.mono hG18
   refine O_nil (T_kp [3, 5, 9, 10, 11] rfl ?_)
   refine T_region rfl ?_
   refine O_m rfl ?_
   refine O_y hs (Y_bits (c := (((b[k]'(by omega)).toNat % 16 : Nat) : Int)) rfl rfl (.inl rfl) (and_15 _) ?_)
   refine O_y hs (Y_idxStr (b := (hexD ((b[k]'(by omega)).toNat % 16))) ((b[k]'(by omega)).toNat % 16) Tryz.underlying9 rfl rfl rfl (hexD_at (by omega)) ?_)
   have hs := hs.f1
   have hs := hs.f1
   refine O_s (S_call (H1 := [_, _]) hs rfl Tryz.func54 rfl (by kernel_rfl) (wby_ok (c := (hexD ((b[k]'(by omega)).toNat % 16))) (.inr rfl) (by have := hexP_len (b.take k); rw [List.length_take] at this; rw [List.length_append, List.length_singleton]; omega)) fun v2 G' H' _ hR hG22 hs => ?_)
   obtain ⟨w22, rfl, rfl⟩ := hR
   replace hs : St _ _ [_, _] _ := hs
   replace hb := hb.mono hG22
   refine O_nil (T_kp [3, 9, 10, 11] rfl ?_)
   refine T_region rfl ?_
   refine O_y hs (Y_add (c := ((k + 1 : Nat) : Int)) rfl rfl (by omega) (by omega) ?_)
   refine O_m rfl ?_
   have hs := hs.f1
   have hs := hs.f1
   refine O_nil ⟨_, ?_, [(3, _), (9, _), (10, _), (11, _)], ⟨rfl, rfl, rfl, rfl, trivial⟩, ⟨k + 1, _, _, _, by omega, .inr rfl, rfl, rfl, by rw [hexP_succ (by omega)]; simpa [List.append_assoc] using hs⟩⟩
   omega
  ·
   dsimp only [cmpP] at h12
   refine O_nil (T_kp [3, 9, 10, 11, 12] rfl ?_)
   refine T_seq (T_condF rfl (T_exit ?_))
   refine T_seq (T_region rfl ?_)
   have hs := hs.f1
   have hs := hs.f1
   refine O_s (S_call (H1 := [_, _]) hs rfl Tryz.func33 rfl (by kernel_rfl) (bstr_ok (l := hexP (b.take k)) (by intro h0; have := congrArg List.length h0; rw [hexP_len, List.length_take, List.length_nil] at this; omega) (by have := hexP_len (b.take k); rw [List.length_take] at this; omega)) fun v3 G' H' _ hR hG24 hs => ?_)
   obtain ⟨rfl, rfl⟩ := hR
   replace hs : St _ _ [] _ := hs
   replace hb := hb.mono hG24
   refine O_a rfl ?_
   refine O_nil (T_kp [2] rfl ?_)
   refine T_ret ?_
   refine Rt_fin (vs := [_]) Tryz.results30 rfl ⟨rfl, trivial⟩ ?_
   try dsimp only [tup]
   have hkl : b.take k = b := List.take_of_length_le (by omega)
   exact ⟨_, [], hs.done, rfl, by rw [hexT_some (by omega), hkl]⟩

theorem fit_iff (e : Ev) : fitE e = true ↔ kindOk e.kind = true ∧ (useA e.kind.toNat = true ∨ e.a = 0) ∧ (useB e.kind.toNat = true ∨ e.b.length = 0) ∧ (useC e.kind.toNat = true ∨ e.c = 0) := by
  unfold fitE; simp only [Bool.and_eq_true, Bool.or_eq_true, decide_eq_true_eq, and_assoc]
theorem syn_any (s : ByteArray) (a b c : Bool) (k : Nat) : ([Value.string s, .bool a, .bool b, .bool c, fitV k].all fun x => x.oneCell') = true := by
  show (true && (true && (true && (true && ((fitV k).oneCell' && true))))) = true
  rw [fit_one]; rfl
theorem kind_yes {k : Int} (h1 : ¬ k < 1) (h2 : ¬ k > 9) : kindOk k = true := by unfold kindOk; simp; omega
theorem kind_no {k : Int} (h : k < 1 ∨ k > 9) : kindOk k = false := by
  unfold kindOk
  rcases h with h | h
  · rw [decide_eq_false (by omega)]; rfl
  · rw [decide_eq_false (p := k ≤ 9) (by omega), Bool.and_false]
theorem syn_no {k : Int} (h : k < 1 ∨ k > 9) : synC k.toNat = [.string ByteArray.empty, .bool false, .bool false, .bool false, .nilFunc] := by
  rcases h with h | h
  · rw [show k.toNat = 0 by omega]; rfl
  · obtain ⟨n, hn⟩ : ∃ n, k.toNat = n + 10 := ⟨k.toNat - 10, by omega⟩
    have e1 : kwF k.toNat = [] := by rw [hn]; rfl
    have e2 : useA k.toNat = false := by unfold useA; rw [decide_eq_false (p := k.toNat ≤ 8) (by omega), Bool.and_false]
    have e3 : useB k.toNat = false := decide_eq_false (by omega)
    have e4 : useC k.toNat = false := by unfold useC; rw [decide_eq_false (by omega), decide_eq_false (by omega), decide_eq_false (by omega), decide_eq_false (by omega)]; rfl
    have e5 : fitV k.toNat = .nilFunc := by rw [hn]; rfl
    unfold synC; rw [e1, e2, e3, e4, e5]; rfl


set_option maxHeartbeats 1000000 in
set_option maxRecDepth 10000 in
theorem syn_ok {G : Ghost} {e : Ev} {vb : Value} (hb : Bytes G vb e.b) :
  FnOk Tryz.prog 28 [.agg #[.int .i64 e.kind, .int .i64 e.a, .int .i64 e.c, vb]] G [] fun r _ H' => H' = [] ∧ r = .tuple #[.agg (synC e.kind.toNat).toArray, .bool (fitE e)] := by
 obtain ⟨A, cap, rfl, _⟩ := id hb
 refine FnOk.of_T [(0, _)] Tryz.func28 rfl Tryz.ntmps28 (by simp) rfl fun w0 hs => ?_
 refine T_seq (T_region rfl ?_)
 refine O_s (S_box hs rfl (cs := [_, _, _, _]) rfl fun b1 _ hs => ?_)
 refine O_s (S_alloc hs Tryz.zeroValue76 (cs := [_, _, _, _, _]) rfl fun b2 _ hs => ?_)
 refine O_a rfl ?_
 refine O_nil (T_kp [1, 2] rfl ?_)
 refine T_seq (T_seq (T_region rfl ?_))
 refine O_y hs (Y_fieldAddr FO36_0 rfl (m := 0) rfl ?_)
 refine O_y hs (Y_ld 1 Tryz.isAgg3 rfl rfl rfl ?_)
 refine O_y hs (Y_cmpS rfl rfl rfl (fun h7 => ?_) (fun h7 => ?_))
 ·
  dsimp only [cmpP] at h7
  refine O_m rfl ?_
  refine O_no 8 rfl rfl ?_
  refine O_no 8 rfl rfl ?_
  refine O_no 8 rfl rfl ?_
  refine O_y hs (Y_pickT rfl rfl ?_)
  refine O_nil (T_kp [1, 2, 12] rfl ?_)
  refine T_condT rfl (T_seq (T_region rfl ?_))
  refine O_y hs (Y_build Tryz.zeroValue76 rfl PL76 rfl (cs := [_, _, _, _, _]) rfl ?_)
  refine O_n (S_stA hs Tryz.sizeOf76 rfl rfl (vs := [_, _, _, _, _]) rfl (rfl) (by simp) (cs' := [_, _, _, _, _]) rfl fun _ hs => ?_)
  refine O_a rfl ?_
  refine O_nil (T_kp [2, 3] rfl ?_)
  refine T_ret ?_
  have hr := hs
  refine Rt_fin (vs := [_, _]) Tryz.results28 rfl ⟨ResOk_blk 0 hr Tryz.isAgg76 Tryz.sizeOf76 rfl (cs := [_, _, _, _, _]) rfl rfl, rfl, trivial⟩ ?_
  try dsimp only [tup]
  have hno : e.kind < 1 ∨ e.kind > 9 := by omega
  exact ⟨_, [], hs.done, rfl, by rw [syn_no hno, show fitE e = false by unfold fitE; rw [kind_no hno]; rfl]; rfl⟩
 ·
  dsimp only [cmpP] at h7
  refine O_m rfl ?_
  refine O_yy 8 hs rfl rfl (Y_fieldAddr FO36_0 rfl (m := 0) rfl ?_)
  refine O_yy 8 hs rfl rfl (Y_ld 1 Tryz.isAgg3 rfl rfl rfl ?_)
  refine O_yy 8 hs rfl rfl (Y_cmpS rfl rfl rfl (fun h11 => ?_) (fun h11 => ?_))
  ·
   dsimp only [cmpP] at h11
   refine O_y hs (Y_pickF rfl rfl ?_)
   refine O_nil (T_kp [1, 2, 12] rfl ?_)
   refine T_condT rfl (T_seq (T_region rfl ?_))
   refine O_y hs (Y_build Tryz.zeroValue76 rfl PL76 rfl (cs := [_, _, _, _, _]) rfl ?_)
   refine O_n (S_stA hs Tryz.sizeOf76 rfl rfl (vs := [_, _, _, _, _]) rfl (rfl) (by simp) (cs' := [_, _, _, _, _]) rfl fun _ hs => ?_)
   refine O_a rfl ?_
   refine O_nil (T_kp [2, 3] rfl ?_)
   refine T_ret ?_
   have hr := hs
   refine Rt_fin (vs := [_, _]) Tryz.results28 rfl ⟨ResOk_blk 0 hr Tryz.isAgg76 Tryz.sizeOf76 rfl (cs := [_, _, _, _, _]) rfl rfl, rfl, trivial⟩ ?_
   try dsimp only [tup]
   have hno : e.kind < 1 ∨ e.kind > 9 := by omega
   exact ⟨_, [], hs.done, rfl, by rw [syn_no hno, show fitE e = false by unfold fitE; rw [kind_no hno]; rfl]; rfl⟩
  ·
   dsimp only [cmpP] at h11
   refine O_y hs (Y_pickF rfl rfl ?_)
   refine O_nil (T_kp [1, 2, 12] rfl ?_)
   refine T_condF rfl (T_skip ?_)
   refine T_seq (T_drawS [0, 1, 2, 3, 4] hs (by kernel_rfl) ?_)
   replace hs := hs.drew
   refine A_take 1 rfl (by kernel_rfl) rfl hs (Y_fieldAddr FO36_0 rfl (m := 0) rfl ?_)
   refine A_take 2 rfl (by kernel_rfl) rfl hs (Y_ld 1 Tryz.isAgg3 rfl rfl rfl ?_)
   refine A_two 0 4 rfl rfl (by kernel_rfl) rfl rfl ?_ ?_
   ·
    have hle := hs.le
    refine S_call (H1 := []) hs rfl Tryz.func44 rfl (by kernel_rfl) (table_ok) fun v1 G' H' _ hR hG14 hs => ?_
    obtain ⟨rfl, rfl⟩ := hR
    replace hs : St _ _ [_, _] _ := hs
    refine A_moreS hs hle hG14 (List.Sublist.refl _) ?_
    refine A_take 3 rfl (by kernel_rfl) rfl hs (Y_indexA e.kind.toNat Tryz.underlying100 Tryz.isAgg76 Tryz.sizeOf76 rfl rfl (by omega) (by omega) (tab_at (by omega)) ?_)
    have hle := hs.le
    refine A_only 4 rfl (by kernel_rfl) rfl (S_alloc hs Tryz.zeroValue76 (cs := [_, _, _, _, _]) rfl fun b4 _ hs => ?_)
    refine A_moreS hs hle (Ghost.le.refl _) (List.sublist_cons_self _ _) ?_
    refine A_tailN 5 rfl (by kernel_rfl) (by kernel_rfl) rfl (S_stA hs Tryz.sizeOf76 rfl rfl (vs := [_, _, _, _, _]) rfl ((syn_all e.kind.toNat)) (by simp) (cs' := [_, _, _, _, _]) rfl fun _ hs => ?_)
    refine A_done (by kernel_rfl) (T_kp [1, 2, 4] rfl ?_)
    obtain ⟨uA, hA⟩ : ∃ b, useA e.kind.toNat = b := ⟨_, rfl⟩
    obtain ⟨uB, hB⟩ : ∃ b, useB e.kind.toNat = b := ⟨_, rfl⟩
    obtain ⟨uC, hC⟩ : ∃ b, useC e.kind.toNat = b := ⟨_, rfl⟩
    rw [hA, hB, hC] at hs
    have hs := hs.f1
    have hsW := hs.drop
    refine T_seq (T_drawS [0, 1, 2, 3, 4, 5, 6, 7, 8, 9, 10, 11, 12, 13, 14, 15, 16, 17, 18, 19, 20, 21, 22, 23, 24, 25, 26, 27, 28] hsW (by kernel_rfl) ?_)
    replace hs := hs.drew
    replace hsW := hsW.drew
    refine A_take 0 rfl (by kernel_rfl) rfl hsW (Y_ldA 0 Tryz.isAgg76 Tryz.sizeOf76 rfl rfl (vs := [_, _, _, _, _]) rfl rfl ?_)
    refine A_take 1 rfl (by kernel_rfl) rfl hsW (Y_fieldAddr FO76_1 rfl (m := 1) rfl ?_)
    refine A_take 2 rfl (by kernel_rfl) rfl hsW (Y_ld 0 Tryz.isAgg4 rfl rfl rfl ?_)
    cases uA
    ·
     refine A_take 3 rfl (by kernel_rfl) rfl hsW (Y_move rfl ?_)
     refine A_take 4 rfl (by kernel_rfl) rfl hsW (Y_fieldAddr FO36_1 rfl (m := 1) rfl ?_)
     refine A_take 5 rfl (by kernel_rfl) rfl hsW (Y_ld 1 Tryz.isAgg3 rfl rfl rfl ?_)
     refine A_take 6 rfl (by kernel_rfl) rfl hsW (Y_cmpS rfl rfl rfl (fun h24 => ?_) (fun h24 => ?_))
     ·
      dsimp only [cmpP] at h24
      refine A_take 7 rfl (by kernel_rfl) rfl hsW (Y_pickF rfl rfl ?_)
      refine A_take 8 rfl (by kernel_rfl) rfl hsW (Y_move rfl ?_)
      refine A_take 9 rfl (by kernel_rfl) rfl hsW (Y_fieldAddr FO76_2 rfl (m := 2) rfl ?_)
      refine A_take 10 rfl (by kernel_rfl) rfl hsW (Y_ld 0 Tryz.isAgg4 rfl rfl rfl ?_)
      cases uB
      ·
       refine A_take 11 rfl (by kernel_rfl) rfl hsW (Y_move rfl ?_)
       refine A_take 12 rfl (by kernel_rfl) rfl hsW (Y_fieldAddr FO36_3 rfl (m := 3) rfl ?_)
       refine A_take 13 rfl (by kernel_rfl) rfl hsW (Y_ld 1 Tryz.isAgg25 rfl rfl rfl ?_)
       refine A_take 14 rfl (by kernel_rfl) rfl hsW (Y_len Tryz.underlying25 rfl ?_)
       refine A_take 15 rfl (by kernel_rfl) rfl hsW (Y_cmpS rfl rfl rfl (fun h33 => ?_) (fun h33 => ?_))
       ·
        dsimp only [cmpP] at h33
        refine A_take 16 rfl (by kernel_rfl) rfl hsW (Y_pickF rfl rfl ?_)
        refine A_take 17 rfl (by kernel_rfl) rfl hsW (Y_pickT rfl rfl ?_)
        refine A_take 18 rfl (by kernel_rfl) rfl hsW (Y_move rfl ?_)
        refine A_take 19 rfl (by kernel_rfl) rfl hsW (Y_fieldAddr FO76_3 rfl (m := 3) rfl ?_)
        refine A_take 20 rfl (by kernel_rfl) rfl hsW (Y_ld 0 Tryz.isAgg4 rfl rfl rfl ?_)
        cases uC
        ·
         refine A_take 21 rfl (by kernel_rfl) rfl hsW (Y_move rfl ?_)
         refine A_take 22 rfl (by kernel_rfl) rfl hsW (Y_fieldAddr FO36_2 rfl (m := 2) rfl ?_)
         refine A_take 23 rfl (by kernel_rfl) rfl hsW (Y_ld 1 Tryz.isAgg3 rfl rfl rfl ?_)
         refine A_take 24 rfl (by kernel_rfl) rfl hsW (Y_cmpS rfl rfl rfl (fun h42 => ?_) (fun h42 => ?_))
         ·
          dsimp only [cmpP] at h42
          refine A_take 25 rfl (by kernel_rfl) rfl hsW (Y_pickF rfl rfl ?_)
          refine A_take 26 rfl (by kernel_rfl) rfl hsW (Y_pickT rfl rfl ?_)
          have hle := hs.le
          refine A_onlyN 27 rfl (by kernel_rfl) rfl (S_stA hs Tryz.sizeOf76 rfl rfl (vs := [_, _, _, _, _]) rfl ((syn_any _ _ _ _ _)) (by simp) (cs' := [_, _, _, _, _]) rfl fun _ hs => ?_)
          have hsW := hs.drop
          refine A_moreS hsW hle (Ghost.le.refl _) (List.Sublist.refl _) ?_
          refine A_take 28 rfl (by kernel_rfl) rfl hsW (Y_assign rfl ?_)
          refine A_done (by kernel_rfl) (T_kp [2, 3] rfl ?_)
          refine T_ret ?_
          have hr := hs
          refine Rt_fin (vs := [_, _]) Tryz.results28 rfl ⟨ResOk_blk 0 hr Tryz.isAgg76 Tryz.sizeOf76 rfl (cs := [_, _, _, _, _]) rfl rfl, rfl, trivial⟩ ?_
          try dsimp only [tup]
          exact ⟨_, [], hs.done, rfl, by unfold synC; rw [hA, hB, hC, show fitE e = true from (fit_iff e).2 ⟨kind_yes (by omega) (by omega), .inr (by omega), .inr (by omega), .inr (by omega)⟩]⟩
         ·
          dsimp only [cmpP] at h42
          refine A_take 25 rfl (by kernel_rfl) rfl hsW (Y_pickF rfl rfl ?_)
          refine A_take 26 rfl (by kernel_rfl) rfl hsW (Y_pickT rfl rfl ?_)
          have hle := hs.le
          refine A_onlyN 27 rfl (by kernel_rfl) rfl (S_stA hs Tryz.sizeOf76 rfl rfl (vs := [_, _, _, _, _]) rfl ((syn_any _ _ _ _ _)) (by simp) (cs' := [_, _, _, _, _]) rfl fun _ hs => ?_)
          have hsW := hs.drop
          refine A_moreS hsW hle (Ghost.le.refl _) (List.Sublist.refl _) ?_
          refine A_take 28 rfl (by kernel_rfl) rfl hsW (Y_assign rfl ?_)
          refine A_done (by kernel_rfl) (T_kp [2, 3] rfl ?_)
          refine T_ret ?_
          have hr := hs
          refine Rt_fin (vs := [_, _]) Tryz.results28 rfl ⟨ResOk_blk 0 hr Tryz.isAgg76 Tryz.sizeOf76 rfl (cs := [_, _, _, _, _]) rfl rfl, rfl, trivial⟩ ?_
          try dsimp only [tup]
          exact ⟨_, [], hs.done, rfl, by unfold synC; rw [hA, hB, hC, show fitE e = false from Bool.eq_false_iff.2 fun h => by obtain ⟨_, _, _, ha⟩ := (fit_iff e).1 h; rcases ha with ha | ha; (rw [hC] at ha; cases ha); omega]⟩
        ·
         refine A_take 21 rfl (by kernel_rfl) rfl hsW (Y_move rfl ?_)
         refine A_skip 22 rfl (by kernel_rfl) rfl hsW ?_
         refine A_skip 23 rfl (by kernel_rfl) rfl hsW ?_
         refine A_skip 24 rfl (by kernel_rfl) rfl hsW ?_
         refine A_take 25 rfl (by kernel_rfl) rfl hsW (Y_pickT rfl rfl ?_)
         refine A_take 26 rfl (by kernel_rfl) rfl hsW (Y_pickT rfl rfl ?_)
         have hle := hs.le
         refine A_onlyN 27 rfl (by kernel_rfl) rfl (S_stA hs Tryz.sizeOf76 rfl rfl (vs := [_, _, _, _, _]) rfl ((syn_any _ _ _ _ _)) (by simp) (cs' := [_, _, _, _, _]) rfl fun _ hs => ?_)
         have hsW := hs.drop
         refine A_moreS hsW hle (Ghost.le.refl _) (List.Sublist.refl _) ?_
         refine A_take 28 rfl (by kernel_rfl) rfl hsW (Y_assign rfl ?_)
         refine A_done (by kernel_rfl) (T_kp [2, 3] rfl ?_)
         refine T_ret ?_
         have hr := hs
         refine Rt_fin (vs := [_, _]) Tryz.results28 rfl ⟨ResOk_blk 0 hr Tryz.isAgg76 Tryz.sizeOf76 rfl (cs := [_, _, _, _, _]) rfl rfl, rfl, trivial⟩ ?_
         try dsimp only [tup]
         exact ⟨_, [], hs.done, rfl, by unfold synC; rw [hA, hB, hC, show fitE e = true from (fit_iff e).2 ⟨kind_yes (by omega) (by omega), .inr (by omega), .inr (by omega), .inl hC⟩]⟩
       ·
        dsimp only [cmpP] at h33
        refine A_take 16 rfl (by kernel_rfl) rfl hsW (Y_pickF rfl rfl ?_)
        refine A_take 17 rfl (by kernel_rfl) rfl hsW (Y_pickT rfl rfl ?_)
        refine A_take 18 rfl (by kernel_rfl) rfl hsW (Y_move rfl ?_)
        refine A_skip 19 rfl (by kernel_rfl) rfl hsW ?_
        refine A_skip 20 rfl (by kernel_rfl) rfl hsW ?_
        refine A_skip 21 rfl (by kernel_rfl) rfl hsW ?_
        refine A_skip 22 rfl (by kernel_rfl) rfl hsW ?_
        refine A_skip 23 rfl (by kernel_rfl) rfl hsW ?_
        refine A_skip 24 rfl (by kernel_rfl) rfl hsW ?_
        refine A_skip 25 rfl (by kernel_rfl) rfl hsW ?_
        refine A_take 26 rfl (by kernel_rfl) rfl hsW (Y_pickF rfl rfl ?_)
        have hle := hs.le
        refine A_onlyN 27 rfl (by kernel_rfl) rfl (S_stA hs Tryz.sizeOf76 rfl rfl (vs := [_, _, _, _, _]) rfl ((syn_any _ _ _ _ _)) (by simp) (cs' := [_, _, _, _, _]) rfl fun _ hs => ?_)
        have hsW := hs.drop
        refine A_moreS hsW hle (Ghost.le.refl _) (List.Sublist.refl _) ?_
        refine A_take 28 rfl (by kernel_rfl) rfl hsW (Y_assign rfl ?_)
        refine A_done (by kernel_rfl) (T_kp [2, 3] rfl ?_)
        refine T_ret ?_
        have hr := hs
        refine Rt_fin (vs := [_, _]) Tryz.results28 rfl ⟨ResOk_blk 0 hr Tryz.isAgg76 Tryz.sizeOf76 rfl (cs := [_, _, _, _, _]) rfl rfl, rfl, trivial⟩ ?_
        try dsimp only [tup]
        exact ⟨_, [], hs.done, rfl, by unfold synC; rw [hA, hB, hC, show fitE e = false from Bool.eq_false_iff.2 fun h => by obtain ⟨_, _, ha, _⟩ := (fit_iff e).1 h; rcases ha with ha | ha; (rw [hB] at ha; cases ha); omega]⟩
      ·
       refine A_take 11 rfl (by kernel_rfl) rfl hsW (Y_move rfl ?_)
       refine A_skip 12 rfl (by kernel_rfl) rfl hsW ?_
       refine A_skip 13 rfl (by kernel_rfl) rfl hsW ?_
       refine A_skip 14 rfl (by kernel_rfl) rfl hsW ?_
       refine A_skip 15 rfl (by kernel_rfl) rfl hsW ?_
       refine A_take 16 rfl (by kernel_rfl) rfl hsW (Y_pickT rfl rfl ?_)
       refine A_take 17 rfl (by kernel_rfl) rfl hsW (Y_pickT rfl rfl ?_)
       refine A_take 18 rfl (by kernel_rfl) rfl hsW (Y_move rfl ?_)
       refine A_take 19 rfl (by kernel_rfl) rfl hsW (Y_fieldAddr FO76_3 rfl (m := 3) rfl ?_)
       refine A_take 20 rfl (by kernel_rfl) rfl hsW (Y_ld 0 Tryz.isAgg4 rfl rfl rfl ?_)
       cases uC
       ·
        refine A_take 21 rfl (by kernel_rfl) rfl hsW (Y_move rfl ?_)
        refine A_take 22 rfl (by kernel_rfl) rfl hsW (Y_fieldAddr FO36_2 rfl (m := 2) rfl ?_)
        refine A_take 23 rfl (by kernel_rfl) rfl hsW (Y_ld 1 Tryz.isAgg3 rfl rfl rfl ?_)
        refine A_take 24 rfl (by kernel_rfl) rfl hsW (Y_cmpS rfl rfl rfl (fun h42 => ?_) (fun h42 => ?_))
        ·
         dsimp only [cmpP] at h42
         refine A_take 25 rfl (by kernel_rfl) rfl hsW (Y_pickF rfl rfl ?_)
         refine A_take 26 rfl (by kernel_rfl) rfl hsW (Y_pickT rfl rfl ?_)
         have hle := hs.le
         refine A_onlyN 27 rfl (by kernel_rfl) rfl (S_stA hs Tryz.sizeOf76 rfl rfl (vs := [_, _, _, _, _]) rfl ((syn_any _ _ _ _ _)) (by simp) (cs' := [_, _, _, _, _]) rfl fun _ hs => ?_)
         have hsW := hs.drop
         refine A_moreS hsW hle (Ghost.le.refl _) (List.Sublist.refl _) ?_
         refine A_take 28 rfl (by kernel_rfl) rfl hsW (Y_assign rfl ?_)
         refine A_done (by kernel_rfl) (T_kp [2, 3] rfl ?_)
         refine T_ret ?_
         have hr := hs
         refine Rt_fin (vs := [_, _]) Tryz.results28 rfl ⟨ResOk_blk 0 hr Tryz.isAgg76 Tryz.sizeOf76 rfl (cs := [_, _, _, _, _]) rfl rfl, rfl, trivial⟩ ?_
         try dsimp only [tup]
         exact ⟨_, [], hs.done, rfl, by unfold synC; rw [hA, hB, hC, show fitE e = true from (fit_iff e).2 ⟨kind_yes (by omega) (by omega), .inr (by omega), .inl hB, .inr (by omega)⟩]⟩
        ·
         dsimp only [cmpP] at h42
         refine A_take 25 rfl (by kernel_rfl) rfl hsW (Y_pickF rfl rfl ?_)
         refine A_take 26 rfl (by kernel_rfl) rfl hsW (Y_pickT rfl rfl ?_)
         have hle := hs.le
         refine A_onlyN 27 rfl (by kernel_rfl) rfl (S_stA hs Tryz.sizeOf76 rfl rfl (vs := [_, _, _, _, _]) rfl ((syn_any _ _ _ _ _)) (by simp) (cs' := [_, _, _, _, _]) rfl fun _ hs => ?_)
         have hsW := hs.drop
         refine A_moreS hsW hle (Ghost.le.refl _) (List.Sublist.refl _) ?_
         refine A_take 28 rfl (by kernel_rfl) rfl hsW (Y_assign rfl ?_)
         refine A_done (by kernel_rfl) (T_kp [2, 3] rfl ?_)
         refine T_ret ?_
         have hr := hs
         refine Rt_fin (vs := [_, _]) Tryz.results28 rfl ⟨ResOk_blk 0 hr Tryz.isAgg76 Tryz.sizeOf76 rfl (cs := [_, _, _, _, _]) rfl rfl, rfl, trivial⟩ ?_
         try dsimp only [tup]
         exact ⟨_, [], hs.done, rfl, by unfold synC; rw [hA, hB, hC, show fitE e = false from Bool.eq_false_iff.2 fun h => by obtain ⟨_, _, _, ha⟩ := (fit_iff e).1 h; rcases ha with ha | ha; (rw [hC] at ha; cases ha); omega]⟩
       ·
        refine A_take 21 rfl (by kernel_rfl) rfl hsW (Y_move rfl ?_)
        refine A_skip 22 rfl (by kernel_rfl) rfl hsW ?_
        refine A_skip 23 rfl (by kernel_rfl) rfl hsW ?_
        refine A_skip 24 rfl (by kernel_rfl) rfl hsW ?_
        refine A_take 25 rfl (by kernel_rfl) rfl hsW (Y_pickT rfl rfl ?_)
        refine A_take 26 rfl (by kernel_rfl) rfl hsW (Y_pickT rfl rfl ?_)
        have hle := hs.le
        refine A_onlyN 27 rfl (by kernel_rfl) rfl (S_stA hs Tryz.sizeOf76 rfl rfl (vs := [_, _, _, _, _]) rfl ((syn_any _ _ _ _ _)) (by simp) (cs' := [_, _, _, _, _]) rfl fun _ hs => ?_)
        have hsW := hs.drop
        refine A_moreS hsW hle (Ghost.le.refl _) (List.Sublist.refl _) ?_
        refine A_take 28 rfl (by kernel_rfl) rfl hsW (Y_assign rfl ?_)
        refine A_done (by kernel_rfl) (T_kp [2, 3] rfl ?_)
        refine T_ret ?_
        have hr := hs
        refine Rt_fin (vs := [_, _]) Tryz.results28 rfl ⟨ResOk_blk 0 hr Tryz.isAgg76 Tryz.sizeOf76 rfl (cs := [_, _, _, _, _]) rfl rfl, rfl, trivial⟩ ?_
        try dsimp only [tup]
        exact ⟨_, [], hs.done, rfl, by unfold synC; rw [hA, hB, hC, show fitE e = true from (fit_iff e).2 ⟨kind_yes (by omega) (by omega), .inr (by omega), .inl hB, .inl hC⟩]⟩
     ·
      dsimp only [cmpP] at h24
      refine A_take 7 rfl (by kernel_rfl) rfl hsW (Y_pickF rfl rfl ?_)
      refine A_take 8 rfl (by kernel_rfl) rfl hsW (Y_move rfl ?_)
      refine A_skip 9 rfl (by kernel_rfl) rfl hsW ?_
      refine A_skip 10 rfl (by kernel_rfl) rfl hsW ?_
      refine A_skip 11 rfl (by kernel_rfl) rfl hsW ?_
      refine A_skip 12 rfl (by kernel_rfl) rfl hsW ?_
      refine A_skip 13 rfl (by kernel_rfl) rfl hsW ?_
      refine A_skip 14 rfl (by kernel_rfl) rfl hsW ?_
      refine A_skip 15 rfl (by kernel_rfl) rfl hsW ?_
      refine A_skip 16 rfl (by kernel_rfl) rfl hsW ?_
      refine A_take 17 rfl (by kernel_rfl) rfl hsW (Y_pickF rfl rfl ?_)
      refine A_take 18 rfl (by kernel_rfl) rfl hsW (Y_move rfl ?_)
      refine A_skip 19 rfl (by kernel_rfl) rfl hsW ?_
      refine A_skip 20 rfl (by kernel_rfl) rfl hsW ?_
      refine A_skip 21 rfl (by kernel_rfl) rfl hsW ?_
      refine A_skip 22 rfl (by kernel_rfl) rfl hsW ?_
      refine A_skip 23 rfl (by kernel_rfl) rfl hsW ?_
      refine A_skip 24 rfl (by kernel_rfl) rfl hsW ?_
      refine A_skip 25 rfl (by kernel_rfl) rfl hsW ?_
      refine A_take 26 rfl (by kernel_rfl) rfl hsW (Y_pickF rfl rfl ?_)
      have hle := hs.le
      refine A_onlyN 27 rfl (by kernel_rfl) rfl (S_stA hs Tryz.sizeOf76 rfl rfl (vs := [_, _, _, _, _]) rfl ((syn_any _ _ _ _ _)) (by simp) (cs' := [_, _, _, _, _]) rfl fun _ hs => ?_)
      have hsW := hs.drop
      refine A_moreS hsW hle (Ghost.le.refl _) (List.Sublist.refl _) ?_
      refine A_take 28 rfl (by kernel_rfl) rfl hsW (Y_assign rfl ?_)
      refine A_done (by kernel_rfl) (T_kp [2, 3] rfl ?_)
      refine T_ret ?_
      have hr := hs
      refine Rt_fin (vs := [_, _]) Tryz.results28 rfl ⟨ResOk_blk 0 hr Tryz.isAgg76 Tryz.sizeOf76 rfl (cs := [_, _, _, _, _]) rfl rfl, rfl, trivial⟩ ?_
      try dsimp only [tup]
      exact ⟨_, [], hs.done, rfl, by unfold synC; rw [hA, hB, hC, show fitE e = false from Bool.eq_false_iff.2 fun h => by obtain ⟨_, ha, _, _⟩ := (fit_iff e).1 h; rcases ha with ha | ha; (rw [hA] at ha; cases ha); omega]⟩
    ·
     refine A_take 3 rfl (by kernel_rfl) rfl hsW (Y_move rfl ?_)
     refine A_skip 4 rfl (by kernel_rfl) rfl hsW ?_
     refine A_skip 5 rfl (by kernel_rfl) rfl hsW ?_
     refine A_skip 6 rfl (by kernel_rfl) rfl hsW ?_
     refine A_take 7 rfl (by kernel_rfl) rfl hsW (Y_pickT rfl rfl ?_)
     refine A_take 8 rfl (by kernel_rfl) rfl hsW (Y_move rfl ?_)
     refine A_take 9 rfl (by kernel_rfl) rfl hsW (Y_fieldAddr FO76_2 rfl (m := 2) rfl ?_)
     refine A_take 10 rfl (by kernel_rfl) rfl hsW (Y_ld 0 Tryz.isAgg4 rfl rfl rfl ?_)
     cases uB
     ·
      refine A_take 11 rfl (by kernel_rfl) rfl hsW (Y_move rfl ?_)
      refine A_take 12 rfl (by kernel_rfl) rfl hsW (Y_fieldAddr FO36_3 rfl (m := 3) rfl ?_)
      refine A_take 13 rfl (by kernel_rfl) rfl hsW (Y_ld 1 Tryz.isAgg25 rfl rfl rfl ?_)
      refine A_take 14 rfl (by kernel_rfl) rfl hsW (Y_len Tryz.underlying25 rfl ?_)
      refine A_take 15 rfl (by kernel_rfl) rfl hsW (Y_cmpS rfl rfl rfl (fun h33 => ?_) (fun h33 => ?_))
      ·
       dsimp only [cmpP] at h33
       refine A_take 16 rfl (by kernel_rfl) rfl hsW (Y_pickF rfl rfl ?_)
       refine A_take 17 rfl (by kernel_rfl) rfl hsW (Y_pickT rfl rfl ?_)
       refine A_take 18 rfl (by kernel_rfl) rfl hsW (Y_move rfl ?_)
       refine A_take 19 rfl (by kernel_rfl) rfl hsW (Y_fieldAddr FO76_3 rfl (m := 3) rfl ?_)
       refine A_take 20 rfl (by kernel_rfl) rfl hsW (Y_ld 0 Tryz.isAgg4 rfl rfl rfl ?_)
       cases uC
       ·
        refine A_take 21 rfl (by kernel_rfl) rfl hsW (Y_move rfl ?_)
        refine A_take 22 rfl (by kernel_rfl) rfl hsW (Y_fieldAddr FO36_2 rfl (m := 2) rfl ?_)
        refine A_take 23 rfl (by kernel_rfl) rfl hsW (Y_ld 1 Tryz.isAgg3 rfl rfl rfl ?_)
        refine A_take 24 rfl (by kernel_rfl) rfl hsW (Y_cmpS rfl rfl rfl (fun h42 => ?_) (fun h42 => ?_))
        ·
         dsimp only [cmpP] at h42
         refine A_take 25 rfl (by kernel_rfl) rfl hsW (Y_pickF rfl rfl ?_)
         refine A_take 26 rfl (by kernel_rfl) rfl hsW (Y_pickT rfl rfl ?_)
         have hle := hs.le
         refine A_onlyN 27 rfl (by kernel_rfl) rfl (S_stA hs Tryz.sizeOf76 rfl rfl (vs := [_, _, _, _, _]) rfl ((syn_any _ _ _ _ _)) (by simp) (cs' := [_, _, _, _, _]) rfl fun _ hs => ?_)
         have hsW := hs.drop
         refine A_moreS hsW hle (Ghost.le.refl _) (List.Sublist.refl _) ?_
         refine A_take 28 rfl (by kernel_rfl) rfl hsW (Y_assign rfl ?_)
         refine A_done (by kernel_rfl) (T_kp [2, 3] rfl ?_)
         refine T_ret ?_
         have hr := hs
         refine Rt_fin (vs := [_, _]) Tryz.results28 rfl ⟨ResOk_blk 0 hr Tryz.isAgg76 Tryz.sizeOf76 rfl (cs := [_, _, _, _, _]) rfl rfl, rfl, trivial⟩ ?_
         try dsimp only [tup]
         exact ⟨_, [], hs.done, rfl, by unfold synC; rw [hA, hB, hC, show fitE e = true from (fit_iff e).2 ⟨kind_yes (by omega) (by omega), .inl hA, .inr (by omega), .inr (by omega)⟩]⟩
        ·
         dsimp only [cmpP] at h42
         refine A_take 25 rfl (by kernel_rfl) rfl hsW (Y_pickF rfl rfl ?_)
         refine A_take 26 rfl (by kernel_rfl) rfl hsW (Y_pickT rfl rfl ?_)
         have hle := hs.le
         refine A_onlyN 27 rfl (by kernel_rfl) rfl (S_stA hs Tryz.sizeOf76 rfl rfl (vs := [_, _, _, _, _]) rfl ((syn_any _ _ _ _ _)) (by simp) (cs' := [_, _, _, _, _]) rfl fun _ hs => ?_)
         have hsW := hs.drop
         refine A_moreS hsW hle (Ghost.le.refl _) (List.Sublist.refl _) ?_
         refine A_take 28 rfl (by kernel_rfl) rfl hsW (Y_assign rfl ?_)
         refine A_done (by kernel_rfl) (T_kp [2, 3] rfl ?_)
         refine T_ret ?_
         have hr := hs
         refine Rt_fin (vs := [_, _]) Tryz.results28 rfl ⟨ResOk_blk 0 hr Tryz.isAgg76 Tryz.sizeOf76 rfl (cs := [_, _, _, _, _]) rfl rfl, rfl, trivial⟩ ?_
         try dsimp only [tup]
         exact ⟨_, [], hs.done, rfl, by unfold synC; rw [hA, hB, hC, show fitE e = false from Bool.eq_false_iff.2 fun h => by obtain ⟨_, _, _, ha⟩ := (fit_iff e).1 h; rcases ha with ha | ha; (rw [hC] at ha; cases ha); omega]⟩
       ·
        refine A_take 21 rfl (by kernel_rfl) rfl hsW (Y_move rfl ?_)
        refine A_skip 22 rfl (by kernel_rfl) rfl hsW ?_
        refine A_skip 23 rfl (by kernel_rfl) rfl hsW ?_
        refine A_skip 24 rfl (by kernel_rfl) rfl hsW ?_
        refine A_take 25 rfl (by kernel_rfl) rfl hsW (Y_pickT rfl rfl ?_)
        refine A_take 26 rfl (by kernel_rfl) rfl hsW (Y_pickT rfl rfl ?_)
        have hle := hs.le
        refine A_onlyN 27 rfl (by kernel_rfl) rfl (S_stA hs Tryz.sizeOf76 rfl rfl (vs := [_, _, _, _, _]) rfl ((syn_any _ _ _ _ _)) (by simp) (cs' := [_, _, _, _, _]) rfl fun _ hs => ?_)
        have hsW := hs.drop
        refine A_moreS hsW hle (Ghost.le.refl _) (List.Sublist.refl _) ?_
        refine A_take 28 rfl (by kernel_rfl) rfl hsW (Y_assign rfl ?_)
        refine A_done (by kernel_rfl) (T_kp [2, 3] rfl ?_)
        refine T_ret ?_
        have hr := hs
        refine Rt_fin (vs := [_, _]) Tryz.results28 rfl ⟨ResOk_blk 0 hr Tryz.isAgg76 Tryz.sizeOf76 rfl (cs := [_, _, _, _, _]) rfl rfl, rfl, trivial⟩ ?_
        try dsimp only [tup]
        exact ⟨_, [], hs.done, rfl, by unfold synC; rw [hA, hB, hC, show fitE e = true from (fit_iff e).2 ⟨kind_yes (by omega) (by omega), .inl hA, .inr (by omega), .inl hC⟩]⟩
      ·
       dsimp only [cmpP] at h33
       refine A_take 16 rfl (by kernel_rfl) rfl hsW (Y_pickF rfl rfl ?_)
       refine A_take 17 rfl (by kernel_rfl) rfl hsW (Y_pickT rfl rfl ?_)
       refine A_take 18 rfl (by kernel_rfl) rfl hsW (Y_move rfl ?_)
       refine A_skip 19 rfl (by kernel_rfl) rfl hsW ?_
       refine A_skip 20 rfl (by kernel_rfl) rfl hsW ?_
       refine A_skip 21 rfl (by kernel_rfl) rfl hsW ?_
       refine A_skip 22 rfl (by kernel_rfl) rfl hsW ?_
       refine A_skip 23 rfl (by kernel_rfl) rfl hsW ?_
       refine A_skip 24 rfl (by kernel_rfl) rfl hsW ?_
       refine A_skip 25 rfl (by kernel_rfl) rfl hsW ?_
       refine A_take 26 rfl (by kernel_rfl) rfl hsW (Y_pickF rfl rfl ?_)
       have hle := hs.le
       refine A_onlyN 27 rfl (by kernel_rfl) rfl (S_stA hs Tryz.sizeOf76 rfl rfl (vs := [_, _, _, _, _]) rfl ((syn_any _ _ _ _ _)) (by simp) (cs' := [_, _, _, _, _]) rfl fun _ hs => ?_)
       have hsW := hs.drop
       refine A_moreS hsW hle (Ghost.le.refl _) (List.Sublist.refl _) ?_
       refine A_take 28 rfl (by kernel_rfl) rfl hsW (Y_assign rfl ?_)
       refine A_done (by kernel_rfl) (T_kp [2, 3] rfl ?_)
       refine T_ret ?_
       have hr := hs
       refine Rt_fin (vs := [_, _]) Tryz.results28 rfl ⟨ResOk_blk 0 hr Tryz.isAgg76 Tryz.sizeOf76 rfl (cs := [_, _, _, _, _]) rfl rfl, rfl, trivial⟩ ?_
       try dsimp only [tup]
       exact ⟨_, [], hs.done, rfl, by unfold synC; rw [hA, hB, hC, show fitE e = false from Bool.eq_false_iff.2 fun h => by obtain ⟨_, _, ha, _⟩ := (fit_iff e).1 h; rcases ha with ha | ha; (rw [hB] at ha; cases ha); omega]⟩
     ·
      refine A_take 11 rfl (by kernel_rfl) rfl hsW (Y_move rfl ?_)
      refine A_skip 12 rfl (by kernel_rfl) rfl hsW ?_
      refine A_skip 13 rfl (by kernel_rfl) rfl hsW ?_
      refine A_skip 14 rfl (by kernel_rfl) rfl hsW ?_
      refine A_skip 15 rfl (by kernel_rfl) rfl hsW ?_
      refine A_take 16 rfl (by kernel_rfl) rfl hsW (Y_pickT rfl rfl ?_)
      refine A_take 17 rfl (by kernel_rfl) rfl hsW (Y_pickT rfl rfl ?_)
      refine A_take 18 rfl (by kernel_rfl) rfl hsW (Y_move rfl ?_)
      refine A_take 19 rfl (by kernel_rfl) rfl hsW (Y_fieldAddr FO76_3 rfl (m := 3) rfl ?_)
      refine A_take 20 rfl (by kernel_rfl) rfl hsW (Y_ld 0 Tryz.isAgg4 rfl rfl rfl ?_)
      cases uC
      ·
       refine A_take 21 rfl (by kernel_rfl) rfl hsW (Y_move rfl ?_)
       refine A_take 22 rfl (by kernel_rfl) rfl hsW (Y_fieldAddr FO36_2 rfl (m := 2) rfl ?_)
       refine A_take 23 rfl (by kernel_rfl) rfl hsW (Y_ld 1 Tryz.isAgg3 rfl rfl rfl ?_)
       refine A_take 24 rfl (by kernel_rfl) rfl hsW (Y_cmpS rfl rfl rfl (fun h42 => ?_) (fun h42 => ?_))
       ·
        dsimp only [cmpP] at h42
        refine A_take 25 rfl (by kernel_rfl) rfl hsW (Y_pickF rfl rfl ?_)
        refine A_take 26 rfl (by kernel_rfl) rfl hsW (Y_pickT rfl rfl ?_)
        have hle := hs.le
        refine A_onlyN 27 rfl (by kernel_rfl) rfl (S_stA hs Tryz.sizeOf76 rfl rfl (vs := [_, _, _, _, _]) rfl ((syn_any _ _ _ _ _)) (by simp) (cs' := [_, _, _, _, _]) rfl fun _ hs => ?_)
        have hsW := hs.drop
        refine A_moreS hsW hle (Ghost.le.refl _) (List.Sublist.refl _) ?_
        refine A_take 28 rfl (by kernel_rfl) rfl hsW (Y_assign rfl ?_)
        refine A_done (by kernel_rfl) (T_kp [2, 3] rfl ?_)
        refine T_ret ?_
        have hr := hs
        refine Rt_fin (vs := [_, _]) Tryz.results28 rfl ⟨ResOk_blk 0 hr Tryz.isAgg76 Tryz.sizeOf76 rfl (cs := [_, _, _, _, _]) rfl rfl, rfl, trivial⟩ ?_
        try dsimp only [tup]
        exact ⟨_, [], hs.done, rfl, by unfold synC; rw [hA, hB, hC, show fitE e = true from (fit_iff e).2 ⟨kind_yes (by omega) (by omega), .inl hA, .inl hB, .inr (by omega)⟩]⟩
       ·
        dsimp only [cmpP] at h42
        refine A_take 25 rfl (by kernel_rfl) rfl hsW (Y_pickF rfl rfl ?_)
        refine A_take 26 rfl (by kernel_rfl) rfl hsW (Y_pickT rfl rfl ?_)
        have hle := hs.le
        refine A_onlyN 27 rfl (by kernel_rfl) rfl (S_stA hs Tryz.sizeOf76 rfl rfl (vs := [_, _, _, _, _]) rfl ((syn_any _ _ _ _ _)) (by simp) (cs' := [_, _, _, _, _]) rfl fun _ hs => ?_)
        have hsW := hs.drop
        refine A_moreS hsW hle (Ghost.le.refl _) (List.Sublist.refl _) ?_
        refine A_take 28 rfl (by kernel_rfl) rfl hsW (Y_assign rfl ?_)
        refine A_done (by kernel_rfl) (T_kp [2, 3] rfl ?_)
        refine T_ret ?_
        have hr := hs
        refine Rt_fin (vs := [_, _]) Tryz.results28 rfl ⟨ResOk_blk 0 hr Tryz.isAgg76 Tryz.sizeOf76 rfl (cs := [_, _, _, _, _]) rfl rfl, rfl, trivial⟩ ?_
        try dsimp only [tup]
        exact ⟨_, [], hs.done, rfl, by unfold synC; rw [hA, hB, hC, show fitE e = false from Bool.eq_false_iff.2 fun h => by obtain ⟨_, _, _, ha⟩ := (fit_iff e).1 h; rcases ha with ha | ha; (rw [hC] at ha; cases ha); omega]⟩
      ·
       refine A_take 21 rfl (by kernel_rfl) rfl hsW (Y_move rfl ?_)
       refine A_skip 22 rfl (by kernel_rfl) rfl hsW ?_
       refine A_skip 23 rfl (by kernel_rfl) rfl hsW ?_
       refine A_skip 24 rfl (by kernel_rfl) rfl hsW ?_
       refine A_take 25 rfl (by kernel_rfl) rfl hsW (Y_pickT rfl rfl ?_)
       refine A_take 26 rfl (by kernel_rfl) rfl hsW (Y_pickT rfl rfl ?_)
       have hle := hs.le
       refine A_onlyN 27 rfl (by kernel_rfl) rfl (S_stA hs Tryz.sizeOf76 rfl rfl (vs := [_, _, _, _, _]) rfl ((syn_any _ _ _ _ _)) (by simp) (cs' := [_, _, _, _, _]) rfl fun _ hs => ?_)
       have hsW := hs.drop
       refine A_moreS hsW hle (Ghost.le.refl _) (List.Sublist.refl _) ?_
       refine A_take 28 rfl (by kernel_rfl) rfl hsW (Y_assign rfl ?_)
       refine A_done (by kernel_rfl) (T_kp [2, 3] rfl ?_)
       refine T_ret ?_
       have hr := hs
       refine Rt_fin (vs := [_, _]) Tryz.results28 rfl ⟨ResOk_blk 0 hr Tryz.isAgg76 Tryz.sizeOf76 rfl (cs := [_, _, _, _, _]) rfl rfl, rfl, trivial⟩ ?_
       try dsimp only [tup]
       exact ⟨_, [], hs.done, rfl, by unfold synC; rw [hA, hB, hC, show fitE e = true from (fit_iff e).2 ⟨kind_yes (by omega) (by omega), .inl hA, .inl hB, .inl hC⟩]⟩
   ·
    have hle := hs.le
    refine S_alloc hs Tryz.zeroValue76 (cs := [_, _, _, _, _]) rfl fun b4 _ hs => ?_
    refine A_moreS hs hle (Ghost.le.refl _) (List.sublist_cons_self _ _) ?_
    have hle := hs.le
    refine A_only 0 rfl (by kernel_rfl) rfl (S_call (H1 := []) hs rfl Tryz.func44 rfl (by kernel_rfl) (table_ok) fun v2 G' H' _ hR hG14 hs => ?_)
    obtain ⟨rfl, rfl⟩ := hR
    replace hs : St _ _ [_, _, _] _ := hs
    refine A_moreS hs hle hG14 (List.Sublist.refl _) ?_
    refine A_take 3 rfl (by kernel_rfl) rfl hs (Y_indexA e.kind.toNat Tryz.underlying100 Tryz.isAgg76 Tryz.sizeOf76 rfl rfl (by omega) (by omega) (tab_at (by omega)) ?_)
    refine A_tailN 5 rfl (by kernel_rfl) (by kernel_rfl) rfl (S_stA hs Tryz.sizeOf76 rfl rfl (vs := [_, _, _, _, _]) rfl ((syn_all e.kind.toNat)) (by simp) (cs' := [_, _, _, _, _]) rfl fun _ hs => ?_)
    refine A_done (by kernel_rfl) (T_kp [1, 2, 4] rfl ?_)
    obtain ⟨uA, hA⟩ : ∃ b, useA e.kind.toNat = b := ⟨_, rfl⟩
    obtain ⟨uB, hB⟩ : ∃ b, useB e.kind.toNat = b := ⟨_, rfl⟩
    obtain ⟨uC, hC⟩ : ∃ b, useC e.kind.toNat = b := ⟨_, rfl⟩
    rw [hA, hB, hC] at hs
    have hs := hs.f1
    have hsW := hs.drop
    refine T_seq (T_drawS [0, 1, 2, 3, 4, 5, 6, 7, 8, 9, 10, 11, 12, 13, 14, 15, 16, 17, 18, 19, 20, 21, 22, 23, 24, 25, 26, 27, 28] hsW (by kernel_rfl) ?_)
    replace hs := hs.drew
    replace hsW := hsW.drew
    refine A_take 0 rfl (by kernel_rfl) rfl hsW (Y_ldA 0 Tryz.isAgg76 Tryz.sizeOf76 rfl rfl (vs := [_, _, _, _, _]) rfl rfl ?_)
    refine A_take 1 rfl (by kernel_rfl) rfl hsW (Y_fieldAddr FO76_1 rfl (m := 1) rfl ?_)
    refine A_take 2 rfl (by kernel_rfl) rfl hsW (Y_ld 0 Tryz.isAgg4 rfl rfl rfl ?_)
    cases uA
    ·
     refine A_take 3 rfl (by kernel_rfl) rfl hsW (Y_move rfl ?_)
     refine A_take 4 rfl (by kernel_rfl) rfl hsW (Y_fieldAddr FO36_1 rfl (m := 1) rfl ?_)
     refine A_take 5 rfl (by kernel_rfl) rfl hsW (Y_ld 1 Tryz.isAgg3 rfl rfl rfl ?_)
     refine A_take 6 rfl (by kernel_rfl) rfl hsW (Y_cmpS rfl rfl rfl (fun h24 => ?_) (fun h24 => ?_))
     ·
      dsimp only [cmpP] at h24
      refine A_take 7 rfl (by kernel_rfl) rfl hsW (Y_pickF rfl rfl ?_)
      refine A_take 8 rfl (by kernel_rfl) rfl hsW (Y_move rfl ?_)
      refine A_take 9 rfl (by kernel_rfl) rfl hsW (Y_fieldAddr FO76_2 rfl (m := 2) rfl ?_)
      refine A_take 10 rfl (by kernel_rfl) rfl hsW (Y_ld 0 Tryz.isAgg4 rfl rfl rfl ?_)
      cases uB
      ·
       refine A_take 11 rfl (by kernel_rfl) rfl hsW (Y_move rfl ?_)
       refine A_take 12 rfl (by kernel_rfl) rfl hsW (Y_fieldAddr FO36_3 rfl (m := 3) rfl ?_)
       refine A_take 13 rfl (by kernel_rfl) rfl hsW (Y_ld 1 Tryz.isAgg25 rfl rfl rfl ?_)
       refine A_take 14 rfl (by kernel_rfl) rfl hsW (Y_len Tryz.underlying25 rfl ?_)
       refine A_take 15 rfl (by kernel_rfl) rfl hsW (Y_cmpS rfl rfl rfl (fun h33 => ?_) (fun h33 => ?_))
       ·
        dsimp only [cmpP] at h33
        refine A_take 16 rfl (by kernel_rfl) rfl hsW (Y_pickF rfl rfl ?_)
        refine A_take 17 rfl (by kernel_rfl) rfl hsW (Y_pickT rfl rfl ?_)
        refine A_take 18 rfl (by kernel_rfl) rfl hsW (Y_move rfl ?_)
        refine A_take 19 rfl (by kernel_rfl) rfl hsW (Y_fieldAddr FO76_3 rfl (m := 3) rfl ?_)
        refine A_take 20 rfl (by kernel_rfl) rfl hsW (Y_ld 0 Tryz.isAgg4 rfl rfl rfl ?_)
        cases uC
        ·
         refine A_take 21 rfl (by kernel_rfl) rfl hsW (Y_move rfl ?_)
         refine A_take 22 rfl (by kernel_rfl) rfl hsW (Y_fieldAddr FO36_2 rfl (m := 2) rfl ?_)
         refine A_take 23 rfl (by kernel_rfl) rfl hsW (Y_ld 1 Tryz.isAgg3 rfl rfl rfl ?_)
         refine A_take 24 rfl (by kernel_rfl) rfl hsW (Y_cmpS rfl rfl rfl (fun h42 => ?_) (fun h42 => ?_))
         ·
          dsimp only [cmpP] at h42
          refine A_take 25 rfl (by kernel_rfl) rfl hsW (Y_pickF rfl rfl ?_)
          refine A_take 26 rfl (by kernel_rfl) rfl hsW (Y_pickT rfl rfl ?_)
          have hle := hs.le
          refine A_onlyN 27 rfl (by kernel_rfl) rfl (S_stA hs Tryz.sizeOf76 rfl rfl (vs := [_, _, _, _, _]) rfl ((syn_any _ _ _ _ _)) (by simp) (cs' := [_, _, _, _, _]) rfl fun _ hs => ?_)
          have hsW := hs.drop
          refine A_moreS hsW hle (Ghost.le.refl _) (List.Sublist.refl _) ?_
          refine A_take 28 rfl (by kernel_rfl) rfl hsW (Y_assign rfl ?_)
          refine A_done (by kernel_rfl) (T_kp [2, 3] rfl ?_)
          refine T_ret ?_
          have hr := hs
          refine Rt_fin (vs := [_, _]) Tryz.results28 rfl ⟨ResOk_blk 0 hr Tryz.isAgg76 Tryz.sizeOf76 rfl (cs := [_, _, _, _, _]) rfl rfl, rfl, trivial⟩ ?_
          try dsimp only [tup]
          exact ⟨_, [], hs.done, rfl, by unfold synC; rw [hA, hB, hC, show fitE e = true from (fit_iff e).2 ⟨kind_yes (by omega) (by omega), .inr (by omega), .inr (by omega), .inr (by omega)⟩]⟩
         ·
          dsimp only [cmpP] at h42
          refine A_take 25 rfl (by kernel_rfl) rfl hsW (Y_pickF rfl rfl ?_)
          refine A_take 26 rfl (by kernel_rfl) rfl hsW (Y_pickT rfl rfl ?_)
          have hle := hs.le
          refine A_onlyN 27 rfl (by kernel_rfl) rfl (S_stA hs Tryz.sizeOf76 rfl rfl (vs := [_, _, _, _, _]) rfl ((syn_any _ _ _ _ _)) (by simp) (cs' := [_, _, _, _, _]) rfl fun _ hs => ?_)
          have hsW := hs.drop
          refine A_moreS hsW hle (Ghost.le.refl _) (List.Sublist.refl _) ?_
          refine A_take 28 rfl (by kernel_rfl) rfl hsW (Y_assign rfl ?_)
          refine A_done (by kernel_rfl) (T_kp [2, 3] rfl ?_)
          refine T_ret ?_
          have hr := hs
          refine Rt_fin (vs := [_, _]) Tryz.results28 rfl ⟨ResOk_blk 0 hr Tryz.isAgg76 Tryz.sizeOf76 rfl (cs := [_, _, _, _, _]) rfl rfl, rfl, trivial⟩ ?_
          try dsimp only [tup]
          exact ⟨_, [], hs.done, rfl, by unfold synC; rw [hA, hB, hC, show fitE e = false from Bool.eq_false_iff.2 fun h => by obtain ⟨_, _, _, ha⟩ := (fit_iff e).1 h; rcases ha with ha | ha; (rw [hC] at ha; cases ha); omega]⟩
        ·
         refine A_take 21 rfl (by kernel_rfl) rfl hsW (Y_move rfl ?_)
         refine A_skip 22 rfl (by kernel_rfl) rfl hsW ?_
         refine A_skip 23 rfl (by kernel_rfl) rfl hsW ?_
         refine A_skip 24 rfl (by kernel_rfl) rfl hsW ?_
         refine A_take 25 rfl (by kernel_rfl) rfl hsW (Y_pickT rfl rfl ?_)
         refine A_take 26 rfl (by kernel_rfl) rfl hsW (Y_pickT rfl rfl ?_)
         have hle := hs.le
         refine A_onlyN 27 rfl (by kernel_rfl) rfl (S_stA hs Tryz.sizeOf76 rfl rfl (vs := [_, _, _, _, _]) rfl ((syn_any _ _ _ _ _)) (by simp) (cs' := [_, _, _, _, _]) rfl fun _ hs => ?_)
         have hsW := hs.drop
         refine A_moreS hsW hle (Ghost.le.refl _) (List.Sublist.refl _) ?_
         refine A_take 28 rfl (by kernel_rfl) rfl hsW (Y_assign rfl ?_)
         refine A_done (by kernel_rfl) (T_kp [2, 3] rfl ?_)
         refine T_ret ?_
         have hr := hs
         refine Rt_fin (vs := [_, _]) Tryz.results28 rfl ⟨ResOk_blk 0 hr Tryz.isAgg76 Tryz.sizeOf76 rfl (cs := [_, _, _, _, _]) rfl rfl, rfl, trivial⟩ ?_
         try dsimp only [tup]
         exact ⟨_, [], hs.done, rfl, by unfold synC; rw [hA, hB, hC, show fitE e = true from (fit_iff e).2 ⟨kind_yes (by omega) (by omega), .inr (by omega), .inr (by omega), .inl hC⟩]⟩
       ·
        dsimp only [cmpP] at h33
        refine A_take 16 rfl (by kernel_rfl) rfl hsW (Y_pickF rfl rfl ?_)
        refine A_take 17 rfl (by kernel_rfl) rfl hsW (Y_pickT rfl rfl ?_)
        refine A_take 18 rfl (by kernel_rfl) rfl hsW (Y_move rfl ?_)
        refine A_skip 19 rfl (by kernel_rfl) rfl hsW ?_
        refine A_skip 20 rfl (by kernel_rfl) rfl hsW ?_
        refine A_skip 21 rfl (by kernel_rfl) rfl hsW ?_
        refine A_skip 22 rfl (by kernel_rfl) rfl hsW ?_
        refine A_skip 23 rfl (by kernel_rfl) rfl hsW ?_
        refine A_skip 24 rfl (by kernel_rfl) rfl hsW ?_
        refine A_skip 25 rfl (by kernel_rfl) rfl hsW ?_
        refine A_take 26 rfl (by kernel_rfl) rfl hsW (Y_pickF rfl rfl ?_)
        have hle := hs.le
        refine A_onlyN 27 rfl (by kernel_rfl) rfl (S_stA hs Tryz.sizeOf76 rfl rfl (vs := [_, _, _, _, _]) rfl ((syn_any _ _ _ _ _)) (by simp) (cs' := [_, _, _, _, _]) rfl fun _ hs => ?_)
        have hsW := hs.drop
        refine A_moreS hsW hle (Ghost.le.refl _) (List.Sublist.refl _) ?_
        refine A_take 28 rfl (by kernel_rfl) rfl hsW (Y_assign rfl ?_)
        refine A_done (by kernel_rfl) (T_kp [2, 3] rfl ?_)
        refine T_ret ?_
        have hr := hs
        refine Rt_fin (vs := [_, _]) Tryz.results28 rfl ⟨ResOk_blk 0 hr Tryz.isAgg76 Tryz.sizeOf76 rfl (cs := [_, _, _, _, _]) rfl rfl, rfl, trivial⟩ ?_
        try dsimp only [tup]
        exact ⟨_, [], hs.done, rfl, by unfold synC; rw [hA, hB, hC, show fitE e = false from Bool.eq_false_iff.2 fun h => by obtain ⟨_, _, ha, _⟩ := (fit_iff e).1 h; rcases ha with ha | ha; (rw [hB] at ha; cases ha); omega]⟩
      ·
       refine A_take 11 rfl (by kernel_rfl) rfl hsW (Y_move rfl ?_)
       refine A_skip 12 rfl (by kernel_rfl) rfl hsW ?_
       refine A_skip 13 rfl (by kernel_rfl) rfl hsW ?_
       refine A_skip 14 rfl (by kernel_rfl) rfl hsW ?_
       refine A_skip 15 rfl (by kernel_rfl) rfl hsW ?_
       refine A_take 16 rfl (by kernel_rfl) rfl hsW (Y_pickT rfl rfl ?_)
       refine A_take 17 rfl (by kernel_rfl) rfl hsW (Y_pickT rfl rfl ?_)
       refine A_take 18 rfl (by kernel_rfl) rfl hsW (Y_move rfl ?_)
       refine A_take 19 rfl (by kernel_rfl) rfl hsW (Y_fieldAddr FO76_3 rfl (m := 3) rfl ?_)
       refine A_take 20 rfl (by kernel_rfl) rfl hsW (Y_ld 0 Tryz.isAgg4 rfl rfl rfl ?_)
       cases uC
       ·
        refine A_take 21 rfl (by kernel_rfl) rfl hsW (Y_move rfl ?_)
        refine A_take 22 rfl (by kernel_rfl) rfl hsW (Y_fieldAddr FO36_2 rfl (m := 2) rfl ?_)
        refine A_take 23 rfl (by kernel_rfl) rfl hsW (Y_ld 1 Tryz.isAgg3 rfl rfl rfl ?_)
        refine A_take 24 rfl (by kernel_rfl) rfl hsW (Y_cmpS rfl rfl rfl (fun h42 => ?_) (fun h42 => ?_))
        ·
         dsimp only [cmpP] at h42
         refine A_take 25 rfl (by kernel_rfl) rfl hsW (Y_pickF rfl rfl ?_)
         refine A_take 26 rfl (by kernel_rfl) rfl hsW (Y_pickT rfl rfl ?_)
         have hle := hs.le
         refine A_onlyN 27 rfl (by kernel_rfl) rfl (S_stA hs Tryz.sizeOf76 rfl rfl (vs := [_, _, _, _, _]) rfl ((syn_any _ _ _ _ _)) (by simp) (cs' := [_, _, _, _, _]) rfl fun _ hs => ?_)
         have hsW := hs.drop
         refine A_moreS hsW hle (Ghost.le.refl _) (List.Sublist.refl _) ?_
         refine A_take 28 rfl (by kernel_rfl) rfl hsW (Y_assign rfl ?_)
         refine A_done (by kernel_rfl) (T_kp [2, 3] rfl ?_)
         refine T_ret ?_
         have hr := hs
         refine Rt_fin (vs := [_, _]) Tryz.results28 rfl ⟨ResOk_blk 0 hr Tryz.isAgg76 Tryz.sizeOf76 rfl (cs := [_, _, _, _, _]) rfl rfl, rfl, trivial⟩ ?_
         try dsimp only [tup]
         exact ⟨_, [], hs.done, rfl, by unfold synC; rw [hA, hB, hC, show fitE e = true from (fit_iff e).2 ⟨kind_yes (by omega) (by omega), .inr (by omega), .inl hB, .inr (by omega)⟩]⟩
        ·
         dsimp only [cmpP] at h42
         refine A_take 25 rfl (by kernel_rfl) rfl hsW (Y_pickF rfl rfl ?_)
         refine A_take 26 rfl (by kernel_rfl) rfl hsW (Y_pickT rfl rfl ?_)
         have hle := hs.le
         refine A_onlyN 27 rfl (by kernel_rfl) rfl (S_stA hs Tryz.sizeOf76 rfl rfl (vs := [_, _, _, _, _]) rfl ((syn_any _ _ _ _ _)) (by simp) (cs' := [_, _, _, _, _]) rfl fun _ hs => ?_)
         have hsW := hs.drop
         refine A_moreS hsW hle (Ghost.le.refl _) (List.Sublist.refl _) ?_
         refine A_take 28 rfl (by kernel_rfl) rfl hsW (Y_assign rfl ?_)
         refine A_done (by kernel_rfl) (T_kp [2, 3] rfl ?_)
         refine T_ret ?_
         have hr := hs
         refine Rt_fin (vs := [_, _]) Tryz.results28 rfl ⟨ResOk_blk 0 hr Tryz.isAgg76 Tryz.sizeOf76 rfl (cs := [_, _, _, _, _]) rfl rfl, rfl, trivial⟩ ?_
         try dsimp only [tup]
         exact ⟨_, [], hs.done, rfl, by unfold synC; rw [hA, hB, hC, show fitE e = false from Bool.eq_false_iff.2 fun h => by obtain ⟨_, _, _, ha⟩ := (fit_iff e).1 h; rcases ha with ha | ha; (rw [hC] at ha; cases ha); omega]⟩
       ·
        refine A_take 21 rfl (by kernel_rfl) rfl hsW (Y_move rfl ?_)
        refine A_skip 22 rfl (by kernel_rfl) rfl hsW ?_
        refine A_skip 23 rfl (by kernel_rfl) rfl hsW ?_
        refine A_skip 24 rfl (by kernel_rfl) rfl hsW ?_
        refine A_take 25 rfl (by kernel_rfl) rfl hsW (Y_pickT rfl rfl ?_)
        refine A_take 26 rfl (by kernel_rfl) rfl hsW (Y_pickT rfl rfl ?_)
        have hle := hs.le
        refine A_onlyN 27 rfl (by kernel_rfl) rfl (S_stA hs Tryz.sizeOf76 rfl rfl (vs := [_, _, _, _, _]) rfl ((syn_any _ _ _ _ _)) (by simp) (cs' := [_, _, _, _, _]) rfl fun _ hs => ?_)
        have hsW := hs.drop
        refine A_moreS hsW hle (Ghost.le.refl _) (List.Sublist.refl _) ?_
        refine A_take 28 rfl (by kernel_rfl) rfl hsW (Y_assign rfl ?_)
        refine A_done (by kernel_rfl) (T_kp [2, 3] rfl ?_)
        refine T_ret ?_
        have hr := hs
        refine Rt_fin (vs := [_, _]) Tryz.results28 rfl ⟨ResOk_blk 0 hr Tryz.isAgg76 Tryz.sizeOf76 rfl (cs := [_, _, _, _, _]) rfl rfl, rfl, trivial⟩ ?_
        try dsimp only [tup]
        exact ⟨_, [], hs.done, rfl, by unfold synC; rw [hA, hB, hC, show fitE e = true from (fit_iff e).2 ⟨kind_yes (by omega) (by omega), .inr (by omega), .inl hB, .inl hC⟩]⟩
     ·
      dsimp only [cmpP] at h24
      refine A_take 7 rfl (by kernel_rfl) rfl hsW (Y_pickF rfl rfl ?_)
      refine A_take 8 rfl (by kernel_rfl) rfl hsW (Y_move rfl ?_)
      refine A_skip 9 rfl (by kernel_rfl) rfl hsW ?_
      refine A_skip 10 rfl (by kernel_rfl) rfl hsW ?_
      refine A_skip 11 rfl (by kernel_rfl) rfl hsW ?_
      refine A_skip 12 rfl (by kernel_rfl) rfl hsW ?_
      refine A_skip 13 rfl (by kernel_rfl) rfl hsW ?_
      refine A_skip 14 rfl (by kernel_rfl) rfl hsW ?_
      refine A_skip 15 rfl (by kernel_rfl) rfl hsW ?_
      refine A_skip 16 rfl (by kernel_rfl) rfl hsW ?_
      refine A_take 17 rfl (by kernel_rfl) rfl hsW (Y_pickF rfl rfl ?_)
      refine A_take 18 rfl (by kernel_rfl) rfl hsW (Y_move rfl ?_)
      refine A_skip 19 rfl (by kernel_rfl) rfl hsW ?_
      refine A_skip 20 rfl (by kernel_rfl) rfl hsW ?_
      refine A_skip 21 rfl (by kernel_rfl) rfl hsW ?_
      refine A_skip 22 rfl (by kernel_rfl) rfl hsW ?_
      refine A_skip 23 rfl (by kernel_rfl) rfl hsW ?_
      refine A_skip 24 rfl (by kernel_rfl) rfl hsW ?_
      refine A_skip 25 rfl (by kernel_rfl) rfl hsW ?_
      refine A_take 26 rfl (by kernel_rfl) rfl hsW (Y_pickF rfl rfl ?_)
      have hle := hs.le
      refine A_onlyN 27 rfl (by kernel_rfl) rfl (S_stA hs Tryz.sizeOf76 rfl rfl (vs := [_, _, _, _, _]) rfl ((syn_any _ _ _ _ _)) (by simp) (cs' := [_, _, _, _, _]) rfl fun _ hs => ?_)
      have hsW := hs.drop
      refine A_moreS hsW hle (Ghost.le.refl _) (List.Sublist.refl _) ?_
      refine A_take 28 rfl (by kernel_rfl) rfl hsW (Y_assign rfl ?_)
      refine A_done (by kernel_rfl) (T_kp [2, 3] rfl ?_)
      refine T_ret ?_
      have hr := hs
      refine Rt_fin (vs := [_, _]) Tryz.results28 rfl ⟨ResOk_blk 0 hr Tryz.isAgg76 Tryz.sizeOf76 rfl (cs := [_, _, _, _, _]) rfl rfl, rfl, trivial⟩ ?_
      try dsimp only [tup]
      exact ⟨_, [], hs.done, rfl, by unfold synC; rw [hA, hB, hC, show fitE e = false from Bool.eq_false_iff.2 fun h => by obtain ⟨_, ha, _, _⟩ := (fit_iff e).1 h; rcases ha with ha | ha; (rw [hA] at ha; cases ha); omega]⟩
    ·
     refine A_take 3 rfl (by kernel_rfl) rfl hsW (Y_move rfl ?_)
     refine A_skip 4 rfl (by kernel_rfl) rfl hsW ?_
     refine A_skip 5 rfl (by kernel_rfl) rfl hsW ?_
     refine A_skip 6 rfl (by kernel_rfl) rfl hsW ?_
     refine A_take 7 rfl (by kernel_rfl) rfl hsW (Y_pickT rfl rfl ?_)
     refine A_take 8 rfl (by kernel_rfl) rfl hsW (Y_move rfl ?_)
     refine A_take 9 rfl (by kernel_rfl) rfl hsW (Y_fieldAddr FO76_2 rfl (m := 2) rfl ?_)
     refine A_take 10 rfl (by kernel_rfl) rfl hsW (Y_ld 0 Tryz.isAgg4 rfl rfl rfl ?_)
     cases uB
     ·
      refine A_take 11 rfl (by kernel_rfl) rfl hsW (Y_move rfl ?_)
      refine A_take 12 rfl (by kernel_rfl) rfl hsW (Y_fieldAddr FO36_3 rfl (m := 3) rfl ?_)
      refine A_take 13 rfl (by kernel_rfl) rfl hsW (Y_ld 1 Tryz.isAgg25 rfl rfl rfl ?_)
      refine A_take 14 rfl (by kernel_rfl) rfl hsW (Y_len Tryz.underlying25 rfl ?_)
      refine A_take 15 rfl (by kernel_rfl) rfl hsW (Y_cmpS rfl rfl rfl (fun h33 => ?_) (fun h33 => ?_))
      ·
       dsimp only [cmpP] at h33
       refine A_take 16 rfl (by kernel_rfl) rfl hsW (Y_pickF rfl rfl ?_)
       refine A_take 17 rfl (by kernel_rfl) rfl hsW (Y_pickT rfl rfl ?_)
       refine A_take 18 rfl (by kernel_rfl) rfl hsW (Y_move rfl ?_)
       refine A_take 19 rfl (by kernel_rfl) rfl hsW (Y_fieldAddr FO76_3 rfl (m := 3) rfl ?_)
       refine A_take 20 rfl (by kernel_rfl) rfl hsW (Y_ld 0 Tryz.isAgg4 rfl rfl rfl ?_)
       cases uC
       ·
        refine A_take 21 rfl (by kernel_rfl) rfl hsW (Y_move rfl ?_)
        refine A_take 22 rfl (by kernel_rfl) rfl hsW (Y_fieldAddr FO36_2 rfl (m := 2) rfl ?_)
        refine A_take 23 rfl (by kernel_rfl) rfl hsW (Y_ld 1 Tryz.isAgg3 rfl rfl rfl ?_)
        refine A_take 24 rfl (by kernel_rfl) rfl hsW (Y_cmpS rfl rfl rfl (fun h42 => ?_) (fun h42 => ?_))
        ·
         dsimp only [cmpP] at h42
         refine A_take 25 rfl (by kernel_rfl) rfl hsW (Y_pickF rfl rfl ?_)
         refine A_take 26 rfl (by kernel_rfl) rfl hsW (Y_pickT rfl rfl ?_)
         have hle := hs.le
         refine A_onlyN 27 rfl (by kernel_rfl) rfl (S_stA hs Tryz.sizeOf76 rfl rfl (vs := [_, _, _, _, _]) rfl ((syn_any _ _ _ _ _)) (by simp) (cs' := [_, _, _, _, _]) rfl fun _ hs => ?_)
         have hsW := hs.drop
         refine A_moreS hsW hle (Ghost.le.refl _) (List.Sublist.refl _) ?_
         refine A_take 28 rfl (by kernel_rfl) rfl hsW (Y_assign rfl ?_)
         refine A_done (by kernel_rfl) (T_kp [2, 3] rfl ?_)
         refine T_ret ?_
         have hr := hs
         refine Rt_fin (vs := [_, _]) Tryz.results28 rfl ⟨ResOk_blk 0 hr Tryz.isAgg76 Tryz.sizeOf76 rfl (cs := [_, _, _, _, _]) rfl rfl, rfl, trivial⟩ ?_
         try dsimp only [tup]
         exact ⟨_, [], hs.done, rfl, by unfold synC; rw [hA, hB, hC, show fitE e = true from (fit_iff e).2 ⟨kind_yes (by omega) (by omega), .inl hA, .inr (by omega), .inr (by omega)⟩]⟩
        ·
         dsimp only [cmpP] at h42
         refine A_take 25 rfl (by kernel_rfl) rfl hsW (Y_pickF rfl rfl ?_)
         refine A_take 26 rfl (by kernel_rfl) rfl hsW (Y_pickT rfl rfl ?_)
         have hle := hs.le
         refine A_onlyN 27 rfl (by kernel_rfl) rfl (S_stA hs Tryz.sizeOf76 rfl rfl (vs := [_, _, _, _, _]) rfl ((syn_any _ _ _ _ _)) (by simp) (cs' := [_, _, _, _, _]) rfl fun _ hs => ?_)
         have hsW := hs.drop
         refine A_moreS hsW hle (Ghost.le.refl _) (List.Sublist.refl _) ?_
         refine A_take 28 rfl (by kernel_rfl) rfl hsW (Y_assign rfl ?_)
         refine A_done (by kernel_rfl) (T_kp [2, 3] rfl ?_)
         refine T_ret ?_
         have hr := hs
         refine Rt_fin (vs := [_, _]) Tryz.results28 rfl ⟨ResOk_blk 0 hr Tryz.isAgg76 Tryz.sizeOf76 rfl (cs := [_, _, _, _, _]) rfl rfl, rfl, trivial⟩ ?_
         try dsimp only [tup]
         exact ⟨_, [], hs.done, rfl, by unfold synC; rw [hA, hB, hC, show fitE e = false from Bool.eq_false_iff.2 fun h => by obtain ⟨_, _, _, ha⟩ := (fit_iff e).1 h; rcases ha with ha | ha; (rw [hC] at ha; cases ha); omega]⟩
       ·
        refine A_take 21 rfl (by kernel_rfl) rfl hsW (Y_move rfl ?_)
        refine A_skip 22 rfl (by kernel_rfl) rfl hsW ?_
        refine A_skip 23 rfl (by kernel_rfl) rfl hsW ?_
        refine A_skip 24 rfl (by kernel_rfl) rfl hsW ?_
        refine A_take 25 rfl (by kernel_rfl) rfl hsW (Y_pickT rfl rfl ?_)
        refine A_take 26 rfl (by kernel_rfl) rfl hsW (Y_pickT rfl rfl ?_)
        have hle := hs.le
        refine A_onlyN 27 rfl (by kernel_rfl) rfl (S_stA hs Tryz.sizeOf76 rfl rfl (vs := [_, _, _, _, _]) rfl ((syn_any _ _ _ _ _)) (by simp) (cs' := [_, _, _, _, _]) rfl fun _ hs => ?_)
        have hsW := hs.drop
        refine A_moreS hsW hle (Ghost.le.refl _) (List.Sublist.refl _) ?_
        refine A_take 28 rfl (by kernel_rfl) rfl hsW (Y_assign rfl ?_)
        refine A_done (by kernel_rfl) (T_kp [2, 3] rfl ?_)
        refine T_ret ?_
        have hr := hs
        refine Rt_fin (vs := [_, _]) Tryz.results28 rfl ⟨ResOk_blk 0 hr Tryz.isAgg76 Tryz.sizeOf76 rfl (cs := [_, _, _, _, _]) rfl rfl, rfl, trivial⟩ ?_
        try dsimp only [tup]
        exact ⟨_, [], hs.done, rfl, by unfold synC; rw [hA, hB, hC, show fitE e = true from (fit_iff e).2 ⟨kind_yes (by omega) (by omega), .inl hA, .inr (by omega), .inl hC⟩]⟩
      ·
       dsimp only [cmpP] at h33
       refine A_take 16 rfl (by kernel_rfl) rfl hsW (Y_pickF rfl rfl ?_)
       refine A_take 17 rfl (by kernel_rfl) rfl hsW (Y_pickT rfl rfl ?_)
       refine A_take 18 rfl (by kernel_rfl) rfl hsW (Y_move rfl ?_)
       refine A_skip 19 rfl (by kernel_rfl) rfl hsW ?_
       refine A_skip 20 rfl (by kernel_rfl) rfl hsW ?_
       refine A_skip 21 rfl (by kernel_rfl) rfl hsW ?_
       refine A_skip 22 rfl (by kernel_rfl) rfl hsW ?_
       refine A_skip 23 rfl (by kernel_rfl) rfl hsW ?_
       refine A_skip 24 rfl (by kernel_rfl) rfl hsW ?_
       refine A_skip 25 rfl (by kernel_rfl) rfl hsW ?_
       refine A_take 26 rfl (by kernel_rfl) rfl hsW (Y_pickF rfl rfl ?_)
       have hle := hs.le
       refine A_onlyN 27 rfl (by kernel_rfl) rfl (S_stA hs Tryz.sizeOf76 rfl rfl (vs := [_, _, _, _, _]) rfl ((syn_any _ _ _ _ _)) (by simp) (cs' := [_, _, _, _, _]) rfl fun _ hs => ?_)
       have hsW := hs.drop
       refine A_moreS hsW hle (Ghost.le.refl _) (List.Sublist.refl _) ?_
       refine A_take 28 rfl (by kernel_rfl) rfl hsW (Y_assign rfl ?_)
       refine A_done (by kernel_rfl) (T_kp [2, 3] rfl ?_)
       refine T_ret ?_
       have hr := hs
       refine Rt_fin (vs := [_, _]) Tryz.results28 rfl ⟨ResOk_blk 0 hr Tryz.isAgg76 Tryz.sizeOf76 rfl (cs := [_, _, _, _, _]) rfl rfl, rfl, trivial⟩ ?_
       try dsimp only [tup]
       exact ⟨_, [], hs.done, rfl, by unfold synC; rw [hA, hB, hC, show fitE e = false from Bool.eq_false_iff.2 fun h => by obtain ⟨_, _, ha, _⟩ := (fit_iff e).1 h; rcases ha with ha | ha; (rw [hB] at ha; cases ha); omega]⟩
     ·
      refine A_take 11 rfl (by kernel_rfl) rfl hsW (Y_move rfl ?_)
      refine A_skip 12 rfl (by kernel_rfl) rfl hsW ?_
      refine A_skip 13 rfl (by kernel_rfl) rfl hsW ?_
      refine A_skip 14 rfl (by kernel_rfl) rfl hsW ?_
      refine A_skip 15 rfl (by kernel_rfl) rfl hsW ?_
      refine A_take 16 rfl (by kernel_rfl) rfl hsW (Y_pickT rfl rfl ?_)
      refine A_take 17 rfl (by kernel_rfl) rfl hsW (Y_pickT rfl rfl ?_)
      refine A_take 18 rfl (by kernel_rfl) rfl hsW (Y_move rfl ?_)
      refine A_take 19 rfl (by kernel_rfl) rfl hsW (Y_fieldAddr FO76_3 rfl (m := 3) rfl ?_)
      refine A_take 20 rfl (by kernel_rfl) rfl hsW (Y_ld 0 Tryz.isAgg4 rfl rfl rfl ?_)
      cases uC
      ·
       refine A_take 21 rfl (by kernel_rfl) rfl hsW (Y_move rfl ?_)
       refine A_take 22 rfl (by kernel_rfl) rfl hsW (Y_fieldAddr FO36_2 rfl (m := 2) rfl ?_)
       refine A_take 23 rfl (by kernel_rfl) rfl hsW (Y_ld 1 Tryz.isAgg3 rfl rfl rfl ?_)
       refine A_take 24 rfl (by kernel_rfl) rfl hsW (Y_cmpS rfl rfl rfl (fun h42 => ?_) (fun h42 => ?_))
       ·
        dsimp only [cmpP] at h42
        refine A_take 25 rfl (by kernel_rfl) rfl hsW (Y_pickF rfl rfl ?_)
        refine A_take 26 rfl (by kernel_rfl) rfl hsW (Y_pickT rfl rfl ?_)
        have hle := hs.le
        refine A_onlyN 27 rfl (by kernel_rfl) rfl (S_stA hs Tryz.sizeOf76 rfl rfl (vs := [_, _, _, _, _]) rfl ((syn_any _ _ _ _ _)) (by simp) (cs' := [_, _, _, _, _]) rfl fun _ hs => ?_)
        have hsW := hs.drop
        refine A_moreS hsW hle (Ghost.le.refl _) (List.Sublist.refl _) ?_
        refine A_take 28 rfl (by kernel_rfl) rfl hsW (Y_assign rfl ?_)
        refine A_done (by kernel_rfl) (T_kp [2, 3] rfl ?_)
        refine T_ret ?_
        have hr := hs
        refine Rt_fin (vs := [_, _]) Tryz.results28 rfl ⟨ResOk_blk 0 hr Tryz.isAgg76 Tryz.sizeOf76 rfl (cs := [_, _, _, _, _]) rfl rfl, rfl, trivial⟩ ?_
        try dsimp only [tup]
        exact ⟨_, [], hs.done, rfl, by unfold synC; rw [hA, hB, hC, show fitE e = true from (fit_iff e).2 ⟨kind_yes (by omega) (by omega), .inl hA, .inl hB, .inr (by omega)⟩]⟩
       ·
        dsimp only [cmpP] at h42
        refine A_take 25 rfl (by kernel_rfl) rfl hsW (Y_pickF rfl rfl ?_)
        refine A_take 26 rfl (by kernel_rfl) rfl hsW (Y_pickT rfl rfl ?_)
        have hle := hs.le
        refine A_onlyN 27 rfl (by kernel_rfl) rfl (S_stA hs Tryz.sizeOf76 rfl rfl (vs := [_, _, _, _, _]) rfl ((syn_any _ _ _ _ _)) (by simp) (cs' := [_, _, _, _, _]) rfl fun _ hs => ?_)
        have hsW := hs.drop
        refine A_moreS hsW hle (Ghost.le.refl _) (List.Sublist.refl _) ?_
        refine A_take 28 rfl (by kernel_rfl) rfl hsW (Y_assign rfl ?_)
        refine A_done (by kernel_rfl) (T_kp [2, 3] rfl ?_)
        refine T_ret ?_
        have hr := hs
        refine Rt_fin (vs := [_, _]) Tryz.results28 rfl ⟨ResOk_blk 0 hr Tryz.isAgg76 Tryz.sizeOf76 rfl (cs := [_, _, _, _, _]) rfl rfl, rfl, trivial⟩ ?_
        try dsimp only [tup]
        exact ⟨_, [], hs.done, rfl, by unfold synC; rw [hA, hB, hC, show fitE e = false from Bool.eq_false_iff.2 fun h => by obtain ⟨_, _, _, ha⟩ := (fit_iff e).1 h; rcases ha with ha | ha; (rw [hC] at ha; cases ha); omega]⟩
      ·
       refine A_take 21 rfl (by kernel_rfl) rfl hsW (Y_move rfl ?_)
       refine A_skip 22 rfl (by kernel_rfl) rfl hsW ?_
       refine A_skip 23 rfl (by kernel_rfl) rfl hsW ?_
       refine A_skip 24 rfl (by kernel_rfl) rfl hsW ?_
       refine A_take 25 rfl (by kernel_rfl) rfl hsW (Y_pickT rfl rfl ?_)
       refine A_take 26 rfl (by kernel_rfl) rfl hsW (Y_pickT rfl rfl ?_)
       have hle := hs.le
       refine A_onlyN 27 rfl (by kernel_rfl) rfl (S_stA hs Tryz.sizeOf76 rfl rfl (vs := [_, _, _, _, _]) rfl ((syn_any _ _ _ _ _)) (by simp) (cs' := [_, _, _, _, _]) rfl fun _ hs => ?_)
       have hsW := hs.drop
       refine A_moreS hsW hle (Ghost.le.refl _) (List.Sublist.refl _) ?_
       refine A_take 28 rfl (by kernel_rfl) rfl hsW (Y_assign rfl ?_)
       refine A_done (by kernel_rfl) (T_kp [2, 3] rfl ?_)
       refine T_ret ?_
       have hr := hs
       refine Rt_fin (vs := [_, _]) Tryz.results28 rfl ⟨ResOk_blk 0 hr Tryz.isAgg76 Tryz.sizeOf76 rfl (cs := [_, _, _, _, _]) rfl rfl, rfl, trivial⟩ ?_
       try dsimp only [tup]
       exact ⟨_, [], hs.done, rfl, by unfold synC; rw [hA, hB, hC, show fitE e = true from (fit_iff e).2 ⟨kind_yes (by omega) (by omega), .inl hA, .inl hB, .inl hC⟩]⟩

section
variable {x : Cx} {W : World → Prop} {E : Env} {K : Value → Prop} {d : Option Tmp} {ty : TypeId} {pos : String} {aft : Array Edge} {g : Option (Nat × Bool)}
theorem Y_sliceDataNil {ats : Array TypeId} {o : Operand} {n c : Nat} (h1 : ev E o = some (.slice none n c)) (k : K (.pointer none)) : Y x W ⟨d, .call { callee := .builtin .unsafeSliceData, args := #[o], argTypes := ats }, ty, pos, aft, g⟩ E K :=
  Y_of (v := .pointer none) (fun f hf w _ => by
    have hr := Lib.run_unsafeSliceData_nil (P := x.P) (w := w) ats ty n c
    simp [execOp, resolve, invoke, builtin, hf.ev h1, hr]) k
theorem Y_unsafeString0 {o p : Operand} {pt it : TypeId} (h1 : ev E o = some (.pointer none)) (h2 : ev E p = some (.int .i64 0)) (k : K (.string ByteArray.empty)) : Y x W ⟨d, .call { callee := .builtin .unsafeString, args := #[o, p], argTypes := #[pt, it] }, ty, pos, aft, g⟩ E K :=
  Y_of (v := .string ByteArray.empty) (fun f hf w _ => by
    have hr := Lib.run_unsafeString_none (P := x.P) (w := w) pt it ty none
    simp [execOp, resolve, invoke, builtin, hf.ev h1, hf.ev h2, hr]) k
end


set_option maxHeartbeats 400000 in
set_option maxRecDepth 10000 in
theorem bstr_0 {G : Ghost} {p : Nat} {q : Value} :
  FnOk Tryz.prog 33 [.pointer (some ⟨p, 0, none⟩)] G [.blk p 73 [q, .slice none 0 0], .row 5 1 (.slice none 0 0) ([] : List UInt8).length (([] : List UInt8).map byteV)] fun r _ H' => H' = [] ∧ r = .string ⟨#[]⟩ := by
 refine FnOk.of_T [(0, _)] Tryz.func33 rfl Tryz.ntmps33 (by simp) rfl fun w0 hs => ?_
 refine T_seq (T_region rfl ?_)
 refine O_a rfl ?_
 refine O_nil (T_kp [0] rfl ?_)
 refine T_seq (T_drawS [0, 1, 2, 3, 4, 5, 6, 7, 8, 9] hs (by kernel_rfl) ?_)
 replace hs := hs.drew
 refine A_take 0 rfl (by kernel_rfl) rfl hs (Y_move rfl ?_)
 refine A_take 1 rfl (by kernel_rfl) rfl hs (Y_nil rfl ?_)
 refine A_take 2 rfl (by kernel_rfl) rfl hs (Y_fieldAddr FO73_1 rfl (m := 1) rfl ?_)
 refine A_take 3 rfl (by kernel_rfl) rfl hs (Y_ld 0 Tryz.isAgg25 rfl rfl rfl ?_)
 refine A_take 4 rfl (by kernel_rfl) rfl hs (Y_sliceDataNil rfl ?_)
 refine A_take 5 rfl (by kernel_rfl) rfl hs (Y_move rfl ?_)
 refine A_take 6 rfl (by kernel_rfl) rfl hs (Y_nil rfl ?_)
 refine A_take 7 rfl (by kernel_rfl) rfl hs (Y_fieldAddr FO73_1 rfl (m := 1) rfl ?_)
 refine A_take 8 rfl (by kernel_rfl) rfl hs (Y_ld 0 Tryz.isAgg25 rfl rfl rfl ?_)
 refine A_take 9 rfl (by kernel_rfl) rfl hs (Y_len Tryz.underlying25 rfl ?_)
 refine A_tail 10 rfl (by kernel_rfl) (by kernel_rfl) rfl (S_y hs rfl (Y_unsafeString0 rfl rfl ?_))
 refine A_tail 11 rfl (by kernel_rfl) (by kernel_rfl) rfl (S_y hs rfl (Y_assign rfl ?_))
 refine A_done (by kernel_rfl) (T_kp [2] rfl ?_)
 refine T_ret ?_
 refine Rt_fin (vs := [_]) Tryz.results33 rfl ⟨rfl, trivial⟩ ?_
 try dsimp only [tup]
 exact ⟨_, _, hs.done, rfl, rfl⟩

theorem bstr_any {G : Ghost} {p : Nat} {q v : Value} {l : List UInt8} (hv : l = [] → v = .slice none 0 0) (hl : l.length ≤ 1000000000) : FnOk Tryz.prog 33 [.pointer (some ⟨p, 0, none⟩)] G [.blk p 73 [q, v], .row 5 1 v l.length (l.map byteV)] fun r _ H' => H' = [] ∧ r = .string ⟨l.toArray⟩ := by
  by_cases h0 : l = []
  · obtain rfl := h0
    obtain rfl := hv rfl
    exact bstr_0
  · exact bstr_ok h0 hl
theorem lines_nil {l : List Ev} (h : linesT l = []) : l = [] := by
  cases l with
  | nil => rfl
  | cons e t =>
    have := congrArg List.length h
    have hp := line_pos e
    rw [show linesT (e :: t) = lineT e ++ linesT t from rfl, List.length_append, List.length_nil] at this; omega


theorem wr_no {e : Ev} (h : ¬ (fitE e = true ∧ 0 ≤ e.a ∧ e.a ≤ 1048576 ∧ 0 ≤ e.c ∧ e.c ≤ 1048576)) : wrE e = false := by
  rw [← Bool.not_eq_true]
  intro h2; apply h
  unfold wrE at h2
  simp only [Bool.and_eq_true, decide_eq_true_eq] at h2
  exact ⟨h2.1, h2.2.1.1, h2.2.1.2, h2.2.2.1, h2.2.2.2⟩
theorem wr_yes {e : Ev} (h : fitE e = true) (h1 : 0 ≤ e.a) (h2 : e.a ≤ 1048576) (h3 : 0 ≤ e.c) (h4 : e.c ≤ 1048576) : wrE e = true := by
  unfold wrE; simp only [Bool.and_eq_true, decide_eq_true_eq]; exact ⟨h, ⟨h1, h2⟩, h3, h4⟩
theorem line_of (e : Ev) : joinT (kwF e.kind.toNat :: ((if useA e.kind.toNat then [numT e.a] else []) ++ ((if useB e.kind.toNat then [hexT e.b] else []) ++ (if useC e.kind.toNat then [numT e.c] else [])))) ++ [10] = lineT e := by
  unfold lineT optT
  cases useA e.kind.toNat <;> cases useB e.kind.toNat <;> cases useC e.kind.toNat <;> simp [joinT]


set_option maxHeartbeats 4000000 in
set_option maxRecDepth 10000 in
theorem fmt_ok {G : Ghost} {v : Value} {l : List Ev} (hx : Evs G v l) (hT : Tab10 G) (hBl : ∀ e ∈ l, e.b.length ≤ 400000) (hlen : ∀ k, (∀ i (hi : i < l.length), i < k → wrE l[i] = true) → (linesT (l.take k)).length ≤ 900000) (hl : l.length ≤ 1000000000) :
  FnOk Tryz.prog 17 [v] G [] fun r _ H' => H' = [] ∧ r = .string ⟨(fmtT l).toArray⟩ := by
 obtain ⟨A, cap, rfl⟩ := LstR.slice hx
 refine FnOk.of_T [(0, _)] Tryz.func17 rfl Tryz.ntmps17 (by simp) rfl fun w0 hs => ?_
 have hx0 := hx
 have hT0 := hT
 refine T_seq (T_region rfl ?_)
 refine O_a rfl ?_
 refine O_nil (T_kp [0] rfl ?_)
 refine T_seq (T_region rfl ?_)
 refine O_s (S_alloc hs Tryz.zeroValue73 (cs := [_, _]) rfl fun b3 _ hs => ?_)
 refine O_nil (T_kp [0, 3] rfl ?_)
 refine T_seq (T_seq (T_region rfl ?_))
 refine O_m rfl ?_
 refine O_y hs (Y_len Tryz.underlying22 rfl ?_)
 refine O_m rfl ?_
 refine O_nil (T_kp [3, 9, 10, 11] rfl ?_)
 have hs := hs.nilRow 5 1
 have hs := hs.f1
 refine T_block (T_loop (fun m E w => ∃ (k : Nat) (q v : Value) (G2 : Ghost), k ≤ l.length ∧ (∀ i (hi : i < l.length), i < k → wrE l[i] = true) ∧ (k = 0 → v = .slice none 0 0) ∧ (q = .pointer none ∨ q = .pointer (some ⟨b3, 0, none⟩)) ∧ m = l.length - k ∧ E = ⟨[], [(3, .pointer (some ⟨b3, 0, none⟩)), (9, (.slice A l.length cap)), (10, .int .i64 ((l.length : Nat) : Int)), (11, .int .i64 (k : Int))]⟩ ∧ St ⟨w0, G, feet []⟩ G2 [.blk b3 73 [q, v], .row 5 1 v (linesT (l.take k)).length ((linesT (l.take k)).map byteV)] w) (L := [(3, _), (9, _), (10, _), (11, _)]) ⟨rfl, rfl, rfl, rfl, trivial⟩ (⟨0, _, _, _, by omega, fun i _ h2 => absurd h2 (by omega), fun _ => rfl, .inl rfl, rfl, rfl, hs⟩) fun m E w hI => ?_)
 obtain ⟨k, q, v, G2, hk, hgo, hv0, hbq, rfl, rfl, hs⟩ := hI
 have hx := hx0.mono hs.le
 have hT := hT0.mono hs.le
 refine T_seq (T_region rfl ?_)
 refine O_y hs (Y_cmpS rfl rfl rfl (fun h12 => ?_) (fun h12 => ?_))
 ·
  dsimp only [cmpP] at h12
  refine O_nil (T_kp [3, 9, 10, 11, 12] rfl ?_)
  refine T_seq (T_condT rfl (T_skip ?_))
  refine T_seq (T_block (T_seq (T_region rfl ?_)))
  refine O_y hs (Y_idxS hx k Tryz.underlying22 Tryz.sizeOf36 rfl rfl rfl (by omega) fun p13 c13 hp13 hc13 hR13 => ?_)
  obtain ⟨ve, rfl, hbe⟩ := hR13
  obtain ⟨e, hel⟩ : ∃ e, e = l[k]'(by omega) := ⟨_, rfl⟩
  rw [← hel] at hp13 hbe
  refine O_y hs (Y_ldAG (vs := [.int .i64 e.kind, .int .i64 e.a, .int .i64 e.c, ve]) Tryz.isAgg36 Tryz.sizeOf36 rfl hp13 rfl ?_)
  refine O_s (S_alloc hs Tryz.zeroValue36 (cs := [_, _, _, _]) rfl fun b5 _ hs => ?_)
  refine O_n (S_stA hs Tryz.sizeOf36 rfl rfl (vs := [_, _, _, _]) rfl ((ev_all hbe)) (by simp) (cs' := [_, _, _, _]) rfl fun _ hs => ?_)
  refine O_nil (T_kp [3, 5, 9, 10, 11] rfl ?_)
  refine T_seq (T_region rfl ?_)
  refine O_y hs (Y_ldA 0 Tryz.isAgg36 Tryz.sizeOf36 rfl rfl (vs := [_, _, _, _]) rfl rfl ?_)
  refine O_s (S_call (H1 := []) hs rfl Tryz.func28 rfl (by kernel_rfl) (syn_ok hbe) fun v1 G' H' _ hR hG17 hs => ?_)
  obtain ⟨rfl, rfl⟩ := hR
  replace hs : St _ _ [_, _, _] _ := hs
  replace hx := hx.mono hG17
  replace hT := hT.mono hG17
  replace hbe := hbe.mono hG17
  refine O_m rfl ?_
  refine O_y hs (Y_extract rfl rfl ?_)
  refine O_y hs (Y_extract rfl rfl ?_)
  refine O_s (S_alloc hs Tryz.zeroValue76 (cs := [_, _, _, _, _]) rfl fun b6 _ hs => ?_)
  refine O_n (S_stA hs Tryz.sizeOf76 rfl rfl (vs := [_, _, _, _, _]) rfl ((syn_all e.kind.toNat)) (by simp) (cs' := [_, _, _, _, _]) rfl fun _ hs => ?_)
  refine O_a rfl ?_
  refine O_nil (T_kp [3, 5, 6, 7, 9, 10, 11] rfl ?_)
  refine T_seq (T_seq (T_region rfl ?_))
  refine O_m rfl ?_
  cases hf : fitE e
  ·
   refine O_y hs (Y_not rfl ?_)
   refine O_m rfl ?_
   refine O_no 22 rfl rfl ?_
   refine O_no 22 rfl rfl ?_
   refine O_no 22 rfl rfl ?_
   refine O_y hs (Y_pickT rfl rfl ?_)
   refine O_m rfl ?_
   refine O_no 27 rfl rfl ?_
   refine O_no 27 rfl rfl ?_
   refine O_no 27 rfl rfl ?_
   refine O_y hs (Y_pickT rfl rfl ?_)
   refine O_m rfl ?_
   refine O_no 32 rfl rfl ?_
   refine O_no 32 rfl rfl ?_
   refine O_no 32 rfl rfl ?_
   refine O_y hs (Y_pickT rfl rfl ?_)
   refine O_m rfl ?_
   refine O_no 37 rfl rfl ?_
   refine O_no 37 rfl rfl ?_
   refine O_no 37 rfl rfl ?_
   refine O_y hs (Y_pickT rfl rfl ?_)
   refine O_nil (T_kp [3, 5, 6, 9, 10, 11, 41] rfl ?_)
   refine T_condT rfl (T_seq (T_region rfl ?_))
   refine O_a rfl ?_
   refine O_nil (T_kp [2] rfl ?_)
   refine T_ret ?_
   refine Rt_fin (vs := [_]) Tryz.results17 rfl ⟨rfl, trivial⟩ ?_
   try dsimp only [tup]
   exact ⟨_, [], hs.done, rfl, by rw [fmt_bad (k := k) (by omega) (by rw [← hel]; exact wr_no (fun h => by rw [hf] at h; cases h.1))]⟩
  ·
   refine O_y hs (Y_not rfl ?_)
   refine O_m rfl ?_
   refine O_yy 22 hs rfl rfl (Y_fieldAddr FO36_1 rfl (m := 1) rfl ?_)
   refine O_yy 22 hs rfl rfl (Y_ld 1 Tryz.isAgg3 rfl rfl rfl ?_)
   refine O_yy 22 hs rfl rfl (Y_cmpS rfl rfl rfl (fun h25 => ?_) (fun h25 => ?_))
   ·
    dsimp only [cmpP] at h25
    refine O_y hs (Y_pickF rfl rfl ?_)
    refine O_m rfl ?_
    refine O_no 27 rfl rfl ?_
    refine O_no 27 rfl rfl ?_
    refine O_no 27 rfl rfl ?_
    refine O_y hs (Y_pickT rfl rfl ?_)
    refine O_m rfl ?_
    refine O_no 32 rfl rfl ?_
    refine O_no 32 rfl rfl ?_
    refine O_no 32 rfl rfl ?_
    refine O_y hs (Y_pickT rfl rfl ?_)
    refine O_m rfl ?_
    refine O_no 37 rfl rfl ?_
    refine O_no 37 rfl rfl ?_
    refine O_no 37 rfl rfl ?_
    refine O_y hs (Y_pickT rfl rfl ?_)
    refine O_nil (T_kp [3, 5, 6, 9, 10, 11, 41] rfl ?_)
    refine T_condT rfl (T_seq (T_region rfl ?_))
    refine O_a rfl ?_
    refine O_nil (T_kp [2] rfl ?_)
    refine T_ret ?_
    refine Rt_fin (vs := [_]) Tryz.results17 rfl ⟨rfl, trivial⟩ ?_
    try dsimp only [tup]
    exact ⟨_, [], hs.done, rfl, by rw [fmt_bad (k := k) (by omega) (by rw [← hel]; exact wr_no (fun h => by omega))]⟩
   ·
    dsimp only [cmpP] at h25
    refine O_y hs (Y_pickF rfl rfl ?_)
    refine O_m rfl ?_
    refine O_yy 27 hs rfl rfl (Y_fieldAddr FO36_1 rfl (m := 1) rfl ?_)
    refine O_yy 27 hs rfl rfl (Y_ld 1 Tryz.isAgg3 rfl rfl rfl ?_)
    refine O_yy 27 hs rfl rfl (Y_cmpS rfl rfl rfl (fun h30 => ?_) (fun h30 => ?_))
    ·
     dsimp only [cmpP] at h30
     refine O_y hs (Y_pickF rfl rfl ?_)
     refine O_m rfl ?_
     refine O_no 32 rfl rfl ?_
     refine O_no 32 rfl rfl ?_
     refine O_no 32 rfl rfl ?_
     refine O_y hs (Y_pickT rfl rfl ?_)
     refine O_m rfl ?_
     refine O_no 37 rfl rfl ?_
     refine O_no 37 rfl rfl ?_
     refine O_no 37 rfl rfl ?_
     refine O_y hs (Y_pickT rfl rfl ?_)
     refine O_nil (T_kp [3, 5, 6, 9, 10, 11, 41] rfl ?_)
     refine T_condT rfl (T_seq (T_region rfl ?_))
     refine O_a rfl ?_
     refine O_nil (T_kp [2] rfl ?_)
     refine T_ret ?_
     refine Rt_fin (vs := [_]) Tryz.results17 rfl ⟨rfl, trivial⟩ ?_
     try dsimp only [tup]
     exact ⟨_, [], hs.done, rfl, by rw [fmt_bad (k := k) (by omega) (by rw [← hel]; exact wr_no (fun h => by omega))]⟩
    ·
     dsimp only [cmpP] at h30
     refine O_y hs (Y_pickF rfl rfl ?_)
     refine O_m rfl ?_
     refine O_yy 32 hs rfl rfl (Y_fieldAddr FO36_2 rfl (m := 2) rfl ?_)
     refine O_yy 32 hs rfl rfl (Y_ld 1 Tryz.isAgg3 rfl rfl rfl ?_)
     refine O_yy 32 hs rfl rfl (Y_cmpS rfl rfl rfl (fun h35 => ?_) (fun h35 => ?_))
     ·
      dsimp only [cmpP] at h35
      refine O_y hs (Y_pickF rfl rfl ?_)
      refine O_m rfl ?_
      refine O_no 37 rfl rfl ?_
      refine O_no 37 rfl rfl ?_
      refine O_no 37 rfl rfl ?_
      refine O_y hs (Y_pickT rfl rfl ?_)
      refine O_nil (T_kp [3, 5, 6, 9, 10, 11, 41] rfl ?_)
      refine T_condT rfl (T_seq (T_region rfl ?_))
      refine O_a rfl ?_
      refine O_nil (T_kp [2] rfl ?_)
      refine T_ret ?_
      refine Rt_fin (vs := [_]) Tryz.results17 rfl ⟨rfl, trivial⟩ ?_
      try dsimp only [tup]
      exact ⟨_, [], hs.done, rfl, by rw [fmt_bad (k := k) (by omega) (by rw [← hel]; exact wr_no (fun h => by omega))]⟩
     ·
      dsimp only [cmpP] at h35
      refine O_y hs (Y_pickF rfl rfl ?_)
      refine O_m rfl ?_
      refine O_yy 37 hs rfl rfl (Y_fieldAddr FO36_2 rfl (m := 2) rfl ?_)
      refine O_yy 37 hs rfl rfl (Y_ld 1 Tryz.isAgg3 rfl rfl rfl ?_)
      refine O_yy 37 hs rfl rfl (Y_cmpS rfl rfl rfl (fun h40 => ?_) (fun h40 => ?_))
      ·
       dsimp only [cmpP] at h40
       refine O_y hs (Y_pickF rfl rfl ?_)
       refine O_nil (T_kp [3, 5, 6, 9, 10, 11, 41] rfl ?_)
       refine T_condT rfl (T_seq (T_region rfl ?_))
       refine O_a rfl ?_
       refine O_nil (T_kp [2] rfl ?_)
       refine T_ret ?_
       refine Rt_fin (vs := [_]) Tryz.results17 rfl ⟨rfl, trivial⟩ ?_
       try dsimp only [tup]
       exact ⟨_, [], hs.done, rfl, by rw [fmt_bad (k := k) (by omega) (by rw [← hel]; exact wr_no (fun h => by omega))]⟩
      ·
       dsimp only [cmpP] at h40
       refine O_y hs (Y_pickF rfl rfl ?_)
       refine O_nil (T_kp [3, 5, 6, 9, 10, 11, 41] rfl ?_)
       refine T_condF rfl (T_skip ?_)
       refine T_seq (T_region rfl ?_)
       refine O_y hs (Y_fieldAddr FO76_0 rfl (m := 0) rfl ?_)
       refine O_y hs (Y_ld 0 Tryz.isAgg9 rfl rfl rfl ?_)
       refine O_s (S_lit hs Tryz.underlying79 Tryz.sizeOf9 Tryz.zeroValue9 rfl rfl (by decide) (by decide) rfl (cs := [_]) rfl rfl fun v2 _ hs _ => ?_)
       refine O_a rfl ?_
       refine O_nil (T_kp [3, 5, 6, 8, 9, 10, 11] rfl ?_)
       refine T_seq (T_seq (T_region rfl ?_))
       refine O_y hs (Y_fieldAddr FO76_1 rfl (m := 1) rfl ?_)
       refine O_y hs (Y_ld 1 Tryz.isAgg4 rfl rfl rfl ?_)
       refine O_nil (T_kp [3, 5, 6, 8, 9, 10, 11, 46] rfl ?_)
       refine T_condS rfl (fun hA => ?_) (fun hA => ?_)
       ·
        refine T_region rfl ?_
        refine O_m rfl ?_
        refine O_y hs (Y_fieldAddr FO36_1 rfl (m := 1) rfl ?_)
        refine O_y hs (Y_ld 2 Tryz.isAgg3 rfl rfl rfl ?_)
        refine O_s (S_call (H1 := []) hs rfl Tryz.func29 rfl (by kernel_rfl) (itoa_ok (n := e.a) hT (by omega) (by omega)) fun v3 G' H' _ hR hG50 hs => ?_)
        obtain ⟨rfl, rfl⟩ := hR
        replace hs : St _ _ [_, _, _, _, _] _ := hs
        replace hx := hx.mono hG50
        replace hT := hT.mono hG50
        replace hbe := hbe.mono hG50
        refine O_s (S_lit hs Tryz.underlying79 Tryz.sizeOf9 Tryz.zeroValue9 rfl rfl (by decide) (by decide) rfl (cs := [_]) rfl rfl fun v4 _ hs _ => ?_)
        obtain ⟨_, hG51, hl51, hs⟩ := hs.fixRow noM
        replace hx := hx.mono hG51
        replace hT := hT.mono hG51
        replace hbe := hbe.mono hG51
        refine O_s (S_append hs Tryz.underlying79 TI9 rfl (by decide) rfl rfl (hl51) (one1 rfl) (by decide) (by decide) fun v5 _ hs => ?_)
        refine O_a rfl ?_
        refine O_nil (T_kp [3, 5, 6, 8, 9, 10, 11] rfl ?_)
        refine T_seq (T_seq (T_region rfl ?_))
        refine O_y hs (Y_fieldAddr FO76_2 rfl (m := 2) rfl ?_)
        refine O_y hs (Y_ld 1 Tryz.isAgg4 rfl rfl rfl ?_)
        refine O_nil (T_kp [3, 5, 6, 8, 9, 10, 11, 54] rfl ?_)
        refine T_condS rfl (fun hB => ?_) (fun hB => ?_)
        ·
         refine T_region rfl ?_
         refine O_m rfl ?_
         refine O_y hs (Y_fieldAddr FO36_3 rfl (m := 3) rfl ?_)
         refine O_y hs (Y_ld 2 Tryz.isAgg25 rfl rfl rfl ?_)
         refine O_s (S_call (H1 := []) hs rfl Tryz.func30 rfl (by kernel_rfl) (hex_ok (b := e.b) hbe (by rw [hel]; exact hBl _ (List.getElem_mem _))) fun v6 G' H' _ hR hG58 hs => ?_)
         obtain ⟨rfl, rfl⟩ := hR
         replace hs : St _ _ [_, _, _, _, _] _ := hs
         replace hx := hx.mono hG58
         replace hT := hT.mono hG58
         replace hbe := hbe.mono hG58
         refine O_s (S_lit hs Tryz.underlying79 Tryz.sizeOf9 Tryz.zeroValue9 rfl rfl (by decide) (by decide) rfl (cs := [_]) rfl rfl fun v7 _ hs _ => ?_)
         obtain ⟨_, hG59, hl59, hs⟩ := hs.fixRow noM
         replace hx := hx.mono hG59
         replace hT := hT.mono hG59
         replace hbe := hbe.mono hG59
         refine O_s (S_append hs Tryz.underlying79 TI9 rfl (by decide) rfl rfl (hl59) (one1 rfl) (by decide) (by decide) fun v8 _ hs => ?_)
         refine O_a rfl ?_
         refine O_nil (T_kp [3, 5, 6, 8, 9, 10, 11] rfl ?_)
         refine T_seq (T_seq (T_region rfl ?_))
         refine O_y hs (Y_fieldAddr FO76_3 rfl (m := 3) rfl ?_)
         refine O_y hs (Y_ld 1 Tryz.isAgg4 rfl rfl rfl ?_)
         refine O_nil (T_kp [3, 5, 8, 9, 10, 11, 62] rfl ?_)
         refine T_condS rfl (fun hC => ?_) (fun hC => ?_)
         ·
          refine T_region rfl ?_
          refine O_m rfl ?_
          refine O_y hs (Y_fieldAddr FO36_2 rfl (m := 2) rfl ?_)
          refine O_y hs (Y_ld 2 Tryz.isAgg3 rfl rfl rfl ?_)
          refine O_s (S_call (H1 := []) hs rfl Tryz.func29 rfl (by kernel_rfl) (itoa_ok (n := e.c) hT (by omega) (by omega)) fun v9 G' H' _ hR hG66 hs => ?_)
          obtain ⟨rfl, rfl⟩ := hR
          replace hs : St _ _ [_, _, _, _, _] _ := hs
          replace hx := hx.mono hG66
          replace hT := hT.mono hG66
          replace hbe := hbe.mono hG66
          refine O_s (S_lit hs Tryz.underlying79 Tryz.sizeOf9 Tryz.zeroValue9 rfl rfl (by decide) (by decide) rfl (cs := [_]) rfl rfl fun v10 _ hs _ => ?_)
          obtain ⟨_, hG67, hl67, hs⟩ := hs.fixRow noM
          replace hx := hx.mono hG67
          replace hT := hT.mono hG67
          replace hbe := hbe.mono hG67
          refine O_s (S_append hs Tryz.underlying79 TI9 rfl (by decide) rfl rfl (hl67) (one1 rfl) (by decide) (by decide) fun v11 _ hs => ?_)
          refine O_a rfl ?_
          refine O_nil (T_kp [3, 8, 9, 10, 11] rfl ?_)
          have hln := line_of e
          rw [hA, hB, hC] at hln
          replace hln : joinT [kwF e.kind.toNat, numT e.a, hexT e.b, numT e.c] ++ [10] = lineT e := hln
          have hll := congrArg List.length hln
          rw [List.length_append, List.length_singleton] at hll
          have hwk : wrE (l[k]'(by omega)) = true := by rw [← hel]; exact wr_yes hf (by omega) (by omega) (by omega) (by omega)
          have hgd : ∀ i (hi : i < l.length), i < k + 1 → wrE l[i] = true := fun i hi h2 => (Nat.lt_or_ge i k).elim (hgo i hi) (fun h' => by have hik : i = k := (by omega); subst hik; exact hwk)
          have hsc := linesT_succ (l := l) (k := k) (by omega)
          rw [← hel] at hsc
          have hl1 := hlen (k + 1) hgd
          rw [hsc, List.length_append] at hl1
          refine T_region rfl ?_
          refine O_m rfl ?_
          refine O_s (S_call (H1 := [_]) hs rfl Tryz.func32 rfl (by kernel_rfl) (join_ok (l := [kwF e.kind.toNat, numT e.a, hexT e.b, numT e.c]) (by simp) (by simp) (by omega)) fun v12 G' H' _ hR hG70 hs => ?_)
          obtain ⟨rfl, rfl⟩ := hR
          replace hs : St _ _ [_, _, _, _, _] _ := hs
          replace hx := hx.mono hG70
          replace hT := hT.mono hG70
          replace hbe := hbe.mono hG70
          refine O_y hs (Y_cat rfl rfl (by simp only [List.length_singleton]; omega) ?_)
          have hs := hs.f4
          have hs := hs.f4
          refine O_s (S_call (H1 := [_, _]) hs rfl Tryz.func31 rfl (by kernel_rfl) (wst_ok (l := linesT (l.take k)) (s := joinT [kwF e.kind.toNat, numT e.a, hexT e.b, numT e.c] ++ [10]) hbq (by omega) (by rw [List.length_append, List.length_singleton]; omega)) fun v13 G' H' _ hR hG72 hs => ?_)
          obtain ⟨wz72, rfl, rfl⟩ := hR
          replace hs : St _ _ [_, _, _, _, _] _ := hs
          replace hx := hx.mono hG72
          replace hT := hT.mono hG72
          replace hbe := hbe.mono hG72
          refine O_nil (T_kp [3, 9, 10, 11] rfl ?_)
          refine T_region rfl ?_
          refine O_y hs (Y_add (c := ((k + 1 : Nat) : Int)) rfl rfl (by omega) (by omega) ?_)
          refine O_m rfl ?_
          have hs := hs.f1
          have hs := hs.f1
          refine O_nil ⟨_, ?_, [(3, _), (9, _), (10, _), (11, _)], ⟨rfl, rfl, rfl, rfl, trivial⟩, ⟨k + 1, _, _, _, by omega, hgd, fun h => absurd h (by omega), .inr rfl, rfl, rfl, by rw [hsc, ← hln]; exact hs.weak hs.le (Ghost.le.refl _) (List.sublist_append_left [_, _] _)⟩⟩
          omega
         ·
          refine T_skip ?_
          have hln := line_of e
          rw [hA, hB, hC] at hln
          replace hln : joinT [kwF e.kind.toNat, numT e.a, hexT e.b] ++ [10] = lineT e := hln
          have hll := congrArg List.length hln
          rw [List.length_append, List.length_singleton] at hll
          have hwk : wrE (l[k]'(by omega)) = true := by rw [← hel]; exact wr_yes hf (by omega) (by omega) (by omega) (by omega)
          have hgd : ∀ i (hi : i < l.length), i < k + 1 → wrE l[i] = true := fun i hi h2 => (Nat.lt_or_ge i k).elim (hgo i hi) (fun h' => by have hik : i = k := (by omega); subst hik; exact hwk)
          have hsc := linesT_succ (l := l) (k := k) (by omega)
          rw [← hel] at hsc
          have hl1 := hlen (k + 1) hgd
          rw [hsc, List.length_append] at hl1
          refine T_region rfl ?_
          refine O_m rfl ?_
          refine O_s (S_call (H1 := [_]) hs rfl Tryz.func32 rfl (by kernel_rfl) (join_ok (l := [kwF e.kind.toNat, numT e.a, hexT e.b]) (by simp) (by simp) (by omega)) fun v14 G' H' _ hR hG70 hs => ?_)
          obtain ⟨rfl, rfl⟩ := hR
          replace hs : St _ _ [_, _, _, _, _] _ := hs
          replace hx := hx.mono hG70
          replace hT := hT.mono hG70
          replace hbe := hbe.mono hG70
          refine O_y hs (Y_cat rfl rfl (by simp only [List.length_singleton]; omega) ?_)
          have hs := hs.f4
          have hs := hs.f4
          refine O_s (S_call (H1 := [_, _]) hs rfl Tryz.func31 rfl (by kernel_rfl) (wst_ok (l := linesT (l.take k)) (s := joinT [kwF e.kind.toNat, numT e.a, hexT e.b] ++ [10]) hbq (by omega) (by rw [List.length_append, List.length_singleton]; omega)) fun v15 G' H' _ hR hG72 hs => ?_)
          obtain ⟨wz72, rfl, rfl⟩ := hR
          replace hs : St _ _ [_, _, _, _, _] _ := hs
          replace hx := hx.mono hG72
          replace hT := hT.mono hG72
          replace hbe := hbe.mono hG72
          refine O_nil (T_kp [3, 9, 10, 11] rfl ?_)
          refine T_region rfl ?_
          refine O_y hs (Y_add (c := ((k + 1 : Nat) : Int)) rfl rfl (by omega) (by omega) ?_)
          refine O_m rfl ?_
          have hs := hs.f1
          have hs := hs.f1
          refine O_nil ⟨_, ?_, [(3, _), (9, _), (10, _), (11, _)], ⟨rfl, rfl, rfl, rfl, trivial⟩, ⟨k + 1, _, _, _, by omega, hgd, fun h => absurd h (by omega), .inr rfl, rfl, rfl, by rw [hsc, ← hln]; exact hs.weak hs.le (Ghost.le.refl _) (List.sublist_append_left [_, _] _)⟩⟩
          omega
        ·
         refine T_skip ?_
         refine T_seq (T_seq (T_region rfl ?_))
         refine O_y hs (Y_fieldAddr FO76_3 rfl (m := 3) rfl ?_)
         refine O_y hs (Y_ld 1 Tryz.isAgg4 rfl rfl rfl ?_)
         refine O_nil (T_kp [3, 5, 8, 9, 10, 11, 62] rfl ?_)
         refine T_condS rfl (fun hC => ?_) (fun hC => ?_)
         ·
          refine T_region rfl ?_
          refine O_m rfl ?_
          refine O_y hs (Y_fieldAddr FO36_2 rfl (m := 2) rfl ?_)
          refine O_y hs (Y_ld 2 Tryz.isAgg3 rfl rfl rfl ?_)
          refine O_s (S_call (H1 := []) hs rfl Tryz.func29 rfl (by kernel_rfl) (itoa_ok (n := e.c) hT (by omega) (by omega)) fun v16 G' H' _ hR hG66 hs => ?_)
          obtain ⟨rfl, rfl⟩ := hR
          replace hs : St _ _ [_, _, _, _, _] _ := hs
          replace hx := hx.mono hG66
          replace hT := hT.mono hG66
          replace hbe := hbe.mono hG66
          refine O_s (S_lit hs Tryz.underlying79 Tryz.sizeOf9 Tryz.zeroValue9 rfl rfl (by decide) (by decide) rfl (cs := [_]) rfl rfl fun v17 _ hs _ => ?_)
          obtain ⟨_, hG67, hl67, hs⟩ := hs.fixRow noM
          replace hx := hx.mono hG67
          replace hT := hT.mono hG67
          replace hbe := hbe.mono hG67
          refine O_s (S_append hs Tryz.underlying79 TI9 rfl (by decide) rfl rfl (hl67) (one1 rfl) (by decide) (by decide) fun v18 _ hs => ?_)
          refine O_a rfl ?_
          refine O_nil (T_kp [3, 8, 9, 10, 11] rfl ?_)
          have hln := line_of e
          rw [hA, hB, hC] at hln
          replace hln : joinT [kwF e.kind.toNat, numT e.a, numT e.c] ++ [10] = lineT e := hln
          have hll := congrArg List.length hln
          rw [List.length_append, List.length_singleton] at hll
          have hwk : wrE (l[k]'(by omega)) = true := by rw [← hel]; exact wr_yes hf (by omega) (by omega) (by omega) (by omega)
          have hgd : ∀ i (hi : i < l.length), i < k + 1 → wrE l[i] = true := fun i hi h2 => (Nat.lt_or_ge i k).elim (hgo i hi) (fun h' => by have hik : i = k := (by omega); subst hik; exact hwk)
          have hsc := linesT_succ (l := l) (k := k) (by omega)
          rw [← hel] at hsc
          have hl1 := hlen (k + 1) hgd
          rw [hsc, List.length_append] at hl1
          refine T_region rfl ?_
          refine O_m rfl ?_
          refine O_s (S_call (H1 := [_]) hs rfl Tryz.func32 rfl (by kernel_rfl) (join_ok (l := [kwF e.kind.toNat, numT e.a, numT e.c]) (by simp) (by simp) (by omega)) fun v19 G' H' _ hR hG70 hs => ?_)
          obtain ⟨rfl, rfl⟩ := hR
          replace hs : St _ _ [_, _, _, _, _] _ := hs
          replace hx := hx.mono hG70
          replace hT := hT.mono hG70
          replace hbe := hbe.mono hG70
          refine O_y hs (Y_cat rfl rfl (by simp only [List.length_singleton]; omega) ?_)
          have hs := hs.f4
          have hs := hs.f4
          refine O_s (S_call (H1 := [_, _]) hs rfl Tryz.func31 rfl (by kernel_rfl) (wst_ok (l := linesT (l.take k)) (s := joinT [kwF e.kind.toNat, numT e.a, numT e.c] ++ [10]) hbq (by omega) (by rw [List.length_append, List.length_singleton]; omega)) fun v20 G' H' _ hR hG72 hs => ?_)
          obtain ⟨wz72, rfl, rfl⟩ := hR
          replace hs : St _ _ [_, _, _, _, _] _ := hs
          replace hx := hx.mono hG72
          replace hT := hT.mono hG72
          replace hbe := hbe.mono hG72
          refine O_nil (T_kp [3, 9, 10, 11] rfl ?_)
          refine T_region rfl ?_
          refine O_y hs (Y_add (c := ((k + 1 : Nat) : Int)) rfl rfl (by omega) (by omega) ?_)
          refine O_m rfl ?_
          have hs := hs.f1
          have hs := hs.f1
          refine O_nil ⟨_, ?_, [(3, _), (9, _), (10, _), (11, _)], ⟨rfl, rfl, rfl, rfl, trivial⟩, ⟨k + 1, _, _, _, by omega, hgd, fun h => absurd h (by omega), .inr rfl, rfl, rfl, by rw [hsc, ← hln]; exact hs.weak hs.le (Ghost.le.refl _) (List.sublist_append_left [_, _] _)⟩⟩
          omega
         ·
          refine T_skip ?_
          have hln := line_of e
          rw [hA, hB, hC] at hln
          replace hln : joinT [kwF e.kind.toNat, numT e.a] ++ [10] = lineT e := hln
          have hll := congrArg List.length hln
          rw [List.length_append, List.length_singleton] at hll
          have hwk : wrE (l[k]'(by omega)) = true := by rw [← hel]; exact wr_yes hf (by omega) (by omega) (by omega) (by omega)
          have hgd : ∀ i (hi : i < l.length), i < k + 1 → wrE l[i] = true := fun i hi h2 => (Nat.lt_or_ge i k).elim (hgo i hi) (fun h' => by have hik : i = k := (by omega); subst hik; exact hwk)
          have hsc := linesT_succ (l := l) (k := k) (by omega)
          rw [← hel] at hsc
          have hl1 := hlen (k + 1) hgd
          rw [hsc, List.length_append] at hl1
          refine T_region rfl ?_
          refine O_m rfl ?_
          refine O_s (S_call (H1 := [_]) hs rfl Tryz.func32 rfl (by kernel_rfl) (join_ok (l := [kwF e.kind.toNat, numT e.a]) (by simp) (by simp) (by omega)) fun v21 G' H' _ hR hG70 hs => ?_)
          obtain ⟨rfl, rfl⟩ := hR
          replace hs : St _ _ [_, _, _, _, _] _ := hs
          replace hx := hx.mono hG70
          replace hT := hT.mono hG70
          replace hbe := hbe.mono hG70
          refine O_y hs (Y_cat rfl rfl (by simp only [List.length_singleton]; omega) ?_)
          have hs := hs.f4
          have hs := hs.f4
          refine O_s (S_call (H1 := [_, _]) hs rfl Tryz.func31 rfl (by kernel_rfl) (wst_ok (l := linesT (l.take k)) (s := joinT [kwF e.kind.toNat, numT e.a] ++ [10]) hbq (by omega) (by rw [List.length_append, List.length_singleton]; omega)) fun v22 G' H' _ hR hG72 hs => ?_)
          obtain ⟨wz72, rfl, rfl⟩ := hR
          replace hs : St _ _ [_, _, _, _, _] _ := hs
          replace hx := hx.mono hG72
          replace hT := hT.mono hG72
          replace hbe := hbe.mono hG72
          refine O_nil (T_kp [3, 9, 10, 11] rfl ?_)
          refine T_region rfl ?_
          refine O_y hs (Y_add (c := ((k + 1 : Nat) : Int)) rfl rfl (by omega) (by omega) ?_)
          refine O_m rfl ?_
          have hs := hs.f1
          have hs := hs.f1
          refine O_nil ⟨_, ?_, [(3, _), (9, _), (10, _), (11, _)], ⟨rfl, rfl, rfl, rfl, trivial⟩, ⟨k + 1, _, _, _, by omega, hgd, fun h => absurd h (by omega), .inr rfl, rfl, rfl, by rw [hsc, ← hln]; exact hs.weak hs.le (Ghost.le.refl _) (List.sublist_append_left [_, _] _)⟩⟩
          omega
       ·
        refine T_skip ?_
        refine T_seq (T_seq (T_region rfl ?_))
        refine O_y hs (Y_fieldAddr FO76_2 rfl (m := 2) rfl ?_)
        refine O_y hs (Y_ld 1 Tryz.isAgg4 rfl rfl rfl ?_)
        refine O_nil (T_kp [3, 5, 6, 8, 9, 10, 11, 54] rfl ?_)
        refine T_condS rfl (fun hB => ?_) (fun hB => ?_)
        ·
         refine T_region rfl ?_
         refine O_m rfl ?_
         refine O_y hs (Y_fieldAddr FO36_3 rfl (m := 3) rfl ?_)
         refine O_y hs (Y_ld 2 Tryz.isAgg25 rfl rfl rfl ?_)
         refine O_s (S_call (H1 := []) hs rfl Tryz.func30 rfl (by kernel_rfl) (hex_ok (b := e.b) hbe (by rw [hel]; exact hBl _ (List.getElem_mem _))) fun v23 G' H' _ hR hG58 hs => ?_)
         obtain ⟨rfl, rfl⟩ := hR
         replace hs : St _ _ [_, _, _, _, _] _ := hs
         replace hx := hx.mono hG58
         replace hT := hT.mono hG58
         replace hbe := hbe.mono hG58
         refine O_s (S_lit hs Tryz.underlying79 Tryz.sizeOf9 Tryz.zeroValue9 rfl rfl (by decide) (by decide) rfl (cs := [_]) rfl rfl fun v24 _ hs _ => ?_)
         obtain ⟨_, hG59, hl59, hs⟩ := hs.fixRow noM
         replace hx := hx.mono hG59
         replace hT := hT.mono hG59
         replace hbe := hbe.mono hG59
         refine O_s (S_append hs Tryz.underlying79 TI9 rfl (by decide) rfl rfl (hl59) (one1 rfl) (by decide) (by decide) fun v25 _ hs => ?_)
         refine O_a rfl ?_
         refine O_nil (T_kp [3, 5, 6, 8, 9, 10, 11] rfl ?_)
         refine T_seq (T_seq (T_region rfl ?_))
         refine O_y hs (Y_fieldAddr FO76_3 rfl (m := 3) rfl ?_)
         refine O_y hs (Y_ld 1 Tryz.isAgg4 rfl rfl rfl ?_)
         refine O_nil (T_kp [3, 5, 8, 9, 10, 11, 62] rfl ?_)
         refine T_condS rfl (fun hC => ?_) (fun hC => ?_)
         ·
          refine T_region rfl ?_
          refine O_m rfl ?_
          refine O_y hs (Y_fieldAddr FO36_2 rfl (m := 2) rfl ?_)
          refine O_y hs (Y_ld 2 Tryz.isAgg3 rfl rfl rfl ?_)
          refine O_s (S_call (H1 := []) hs rfl Tryz.func29 rfl (by kernel_rfl) (itoa_ok (n := e.c) hT (by omega) (by omega)) fun v26 G' H' _ hR hG66 hs => ?_)
          obtain ⟨rfl, rfl⟩ := hR
          replace hs : St _ _ [_, _, _, _, _] _ := hs
          replace hx := hx.mono hG66
          replace hT := hT.mono hG66
          replace hbe := hbe.mono hG66
          refine O_s (S_lit hs Tryz.underlying79 Tryz.sizeOf9 Tryz.zeroValue9 rfl rfl (by decide) (by decide) rfl (cs := [_]) rfl rfl fun v27 _ hs _ => ?_)
          obtain ⟨_, hG67, hl67, hs⟩ := hs.fixRow noM
          replace hx := hx.mono hG67
          replace hT := hT.mono hG67
          replace hbe := hbe.mono hG67
          refine O_s (S_append hs Tryz.underlying79 TI9 rfl (by decide) rfl rfl (hl67) (one1 rfl) (by decide) (by decide) fun v28 _ hs => ?_)
          refine O_a rfl ?_
          refine O_nil (T_kp [3, 8, 9, 10, 11] rfl ?_)
          have hln := line_of e
          rw [hA, hB, hC] at hln
          replace hln : joinT [kwF e.kind.toNat, hexT e.b, numT e.c] ++ [10] = lineT e := hln
          have hll := congrArg List.length hln
          rw [List.length_append, List.length_singleton] at hll
          have hwk : wrE (l[k]'(by omega)) = true := by rw [← hel]; exact wr_yes hf (by omega) (by omega) (by omega) (by omega)
          have hgd : ∀ i (hi : i < l.length), i < k + 1 → wrE l[i] = true := fun i hi h2 => (Nat.lt_or_ge i k).elim (hgo i hi) (fun h' => by have hik : i = k := (by omega); subst hik; exact hwk)
          have hsc := linesT_succ (l := l) (k := k) (by omega)
          rw [← hel] at hsc
          have hl1 := hlen (k + 1) hgd
          rw [hsc, List.length_append] at hl1
          refine T_region rfl ?_
          refine O_m rfl ?_
          refine O_s (S_call (H1 := [_]) hs rfl Tryz.func32 rfl (by kernel_rfl) (join_ok (l := [kwF e.kind.toNat, hexT e.b, numT e.c]) (by simp) (by simp) (by omega)) fun v29 G' H' _ hR hG70 hs => ?_)
          obtain ⟨rfl, rfl⟩ := hR
          replace hs : St _ _ [_, _, _, _, _] _ := hs
          replace hx := hx.mono hG70
          replace hT := hT.mono hG70
          replace hbe := hbe.mono hG70
          refine O_y hs (Y_cat rfl rfl (by simp only [List.length_singleton]; omega) ?_)
          have hs := hs.f4
          have hs := hs.f4
          refine O_s (S_call (H1 := [_, _]) hs rfl Tryz.func31 rfl (by kernel_rfl) (wst_ok (l := linesT (l.take k)) (s := joinT [kwF e.kind.toNat, hexT e.b, numT e.c] ++ [10]) hbq (by omega) (by rw [List.length_append, List.length_singleton]; omega)) fun v30 G' H' _ hR hG72 hs => ?_)
          obtain ⟨wz72, rfl, rfl⟩ := hR
          replace hs : St _ _ [_, _, _, _, _] _ := hs
          replace hx := hx.mono hG72
          replace hT := hT.mono hG72
          replace hbe := hbe.mono hG72
          refine O_nil (T_kp [3, 9, 10, 11] rfl ?_)
          refine T_region rfl ?_
          refine O_y hs (Y_add (c := ((k + 1 : Nat) : Int)) rfl rfl (by omega) (by omega) ?_)
          refine O_m rfl ?_
          have hs := hs.f1
          have hs := hs.f1
          refine O_nil ⟨_, ?_, [(3, _), (9, _), (10, _), (11, _)], ⟨rfl, rfl, rfl, rfl, trivial⟩, ⟨k + 1, _, _, _, by omega, hgd, fun h => absurd h (by omega), .inr rfl, rfl, rfl, by rw [hsc, ← hln]; exact hs.weak hs.le (Ghost.le.refl _) (List.sublist_append_left [_, _] _)⟩⟩
          omega
         ·
          refine T_skip ?_
          have hln := line_of e
          rw [hA, hB, hC] at hln
          replace hln : joinT [kwF e.kind.toNat, hexT e.b] ++ [10] = lineT e := hln
          have hll := congrArg List.length hln
          rw [List.length_append, List.length_singleton] at hll
          have hwk : wrE (l[k]'(by omega)) = true := by rw [← hel]; exact wr_yes hf (by omega) (by omega) (by omega) (by omega)
          have hgd : ∀ i (hi : i < l.length), i < k + 1 → wrE l[i] = true := fun i hi h2 => (Nat.lt_or_ge i k).elim (hgo i hi) (fun h' => by have hik : i = k := (by omega); subst hik; exact hwk)
          have hsc := linesT_succ (l := l) (k := k) (by omega)
          rw [← hel] at hsc
          have hl1 := hlen (k + 1) hgd
          rw [hsc, List.length_append] at hl1
          refine T_region rfl ?_
          refine O_m rfl ?_
          refine O_s (S_call (H1 := [_]) hs rfl Tryz.func32 rfl (by kernel_rfl) (join_ok (l := [kwF e.kind.toNat, hexT e.b]) (by simp) (by simp) (by omega)) fun v31 G' H' _ hR hG70 hs => ?_)
          obtain ⟨rfl, rfl⟩ := hR
          replace hs : St _ _ [_, _, _, _, _] _ := hs
          replace hx := hx.mono hG70
          replace hT := hT.mono hG70
          replace hbe := hbe.mono hG70
          refine O_y hs (Y_cat rfl rfl (by simp only [List.length_singleton]; omega) ?_)
          have hs := hs.f4
          have hs := hs.f4
          refine O_s (S_call (H1 := [_, _]) hs rfl Tryz.func31 rfl (by kernel_rfl) (wst_ok (l := linesT (l.take k)) (s := joinT [kwF e.kind.toNat, hexT e.b] ++ [10]) hbq (by omega) (by rw [List.length_append, List.length_singleton]; omega)) fun v32 G' H' _ hR hG72 hs => ?_)
          obtain ⟨wz72, rfl, rfl⟩ := hR
          replace hs : St _ _ [_, _, _, _, _] _ := hs
          replace hx := hx.mono hG72
          replace hT := hT.mono hG72
          replace hbe := hbe.mono hG72
          refine O_nil (T_kp [3, 9, 10, 11] rfl ?_)
          refine T_region rfl ?_
          refine O_y hs (Y_add (c := ((k + 1 : Nat) : Int)) rfl rfl (by omega) (by omega) ?_)
          refine O_m rfl ?_
          have hs := hs.f1
          have hs := hs.f1
          refine O_nil ⟨_, ?_, [(3, _), (9, _), (10, _), (11, _)], ⟨rfl, rfl, rfl, rfl, trivial⟩, ⟨k + 1, _, _, _, by omega, hgd, fun h => absurd h (by omega), .inr rfl, rfl, rfl, by rw [hsc, ← hln]; exact hs.weak hs.le (Ghost.le.refl _) (List.sublist_append_left [_, _] _)⟩⟩
          omega
        ·
         refine T_skip ?_
         refine T_seq (T_seq (T_region rfl ?_))
         refine O_y hs (Y_fieldAddr FO76_3 rfl (m := 3) rfl ?_)
         refine O_y hs (Y_ld 1 Tryz.isAgg4 rfl rfl rfl ?_)
         refine O_nil (T_kp [3, 5, 8, 9, 10, 11, 62] rfl ?_)
         refine T_condS rfl (fun hC => ?_) (fun hC => ?_)
         ·
          refine T_region rfl ?_
          refine O_m rfl ?_
          refine O_y hs (Y_fieldAddr FO36_2 rfl (m := 2) rfl ?_)
          refine O_y hs (Y_ld 2 Tryz.isAgg3 rfl rfl rfl ?_)
          refine O_s (S_call (H1 := []) hs rfl Tryz.func29 rfl (by kernel_rfl) (itoa_ok (n := e.c) hT (by omega) (by omega)) fun v33 G' H' _ hR hG66 hs => ?_)
          obtain ⟨rfl, rfl⟩ := hR
          replace hs : St _ _ [_, _, _, _, _] _ := hs
          replace hx := hx.mono hG66
          replace hT := hT.mono hG66
          replace hbe := hbe.mono hG66
          refine O_s (S_lit hs Tryz.underlying79 Tryz.sizeOf9 Tryz.zeroValue9 rfl rfl (by decide) (by decide) rfl (cs := [_]) rfl rfl fun v34 _ hs _ => ?_)
          obtain ⟨_, hG67, hl67, hs⟩ := hs.fixRow noM
          replace hx := hx.mono hG67
          replace hT := hT.mono hG67
          replace hbe := hbe.mono hG67
          refine O_s (S_append hs Tryz.underlying79 TI9 rfl (by decide) rfl rfl (hl67) (one1 rfl) (by decide) (by decide) fun v35 _ hs => ?_)
          refine O_a rfl ?_
          refine O_nil (T_kp [3, 8, 9, 10, 11] rfl ?_)
          have hln := line_of e
          rw [hA, hB, hC] at hln
          replace hln : joinT [kwF e.kind.toNat, numT e.c] ++ [10] = lineT e := hln
          have hll := congrArg List.length hln
          rw [List.length_append, List.length_singleton] at hll
          have hwk : wrE (l[k]'(by omega)) = true := by rw [← hel]; exact wr_yes hf (by omega) (by omega) (by omega) (by omega)
          have hgd : ∀ i (hi : i < l.length), i < k + 1 → wrE l[i] = true := fun i hi h2 => (Nat.lt_or_ge i k).elim (hgo i hi) (fun h' => by have hik : i = k := (by omega); subst hik; exact hwk)
          have hsc := linesT_succ (l := l) (k := k) (by omega)
          rw [← hel] at hsc
          have hl1 := hlen (k + 1) hgd
          rw [hsc, List.length_append] at hl1
          refine T_region rfl ?_
          refine O_m rfl ?_
          refine O_s (S_call (H1 := [_]) hs rfl Tryz.func32 rfl (by kernel_rfl) (join_ok (l := [kwF e.kind.toNat, numT e.c]) (by simp) (by simp) (by omega)) fun v36 G' H' _ hR hG70 hs => ?_)
          obtain ⟨rfl, rfl⟩ := hR
          replace hs : St _ _ [_, _, _, _, _] _ := hs
          replace hx := hx.mono hG70
          replace hT := hT.mono hG70
          replace hbe := hbe.mono hG70
          refine O_y hs (Y_cat rfl rfl (by simp only [List.length_singleton]; omega) ?_)
          have hs := hs.f4
          have hs := hs.f4
          refine O_s (S_call (H1 := [_, _]) hs rfl Tryz.func31 rfl (by kernel_rfl) (wst_ok (l := linesT (l.take k)) (s := joinT [kwF e.kind.toNat, numT e.c] ++ [10]) hbq (by omega) (by rw [List.length_append, List.length_singleton]; omega)) fun v37 G' H' _ hR hG72 hs => ?_)
          obtain ⟨wz72, rfl, rfl⟩ := hR
          replace hs : St _ _ [_, _, _, _, _] _ := hs
          replace hx := hx.mono hG72
          replace hT := hT.mono hG72
          replace hbe := hbe.mono hG72
          refine O_nil (T_kp [3, 9, 10, 11] rfl ?_)
          refine T_region rfl ?_
          refine O_y hs (Y_add (c := ((k + 1 : Nat) : Int)) rfl rfl (by omega) (by omega) ?_)
          refine O_m rfl ?_
          have hs := hs.f1
          have hs := hs.f1
          refine O_nil ⟨_, ?_, [(3, _), (9, _), (10, _), (11, _)], ⟨rfl, rfl, rfl, rfl, trivial⟩, ⟨k + 1, _, _, _, by omega, hgd, fun h => absurd h (by omega), .inr rfl, rfl, rfl, by rw [hsc, ← hln]; exact hs.weak hs.le (Ghost.le.refl _) (List.sublist_append_left [_, _] _)⟩⟩
          omega
         ·
          refine T_skip ?_
          have hln := line_of e
          rw [hA, hB, hC] at hln
          replace hln : joinT [kwF e.kind.toNat] ++ [10] = lineT e := hln
          have hll := congrArg List.length hln
          rw [List.length_append, List.length_singleton] at hll
          have hwk : wrE (l[k]'(by omega)) = true := by rw [← hel]; exact wr_yes hf (by omega) (by omega) (by omega) (by omega)
          have hgd : ∀ i (hi : i < l.length), i < k + 1 → wrE l[i] = true := fun i hi h2 => (Nat.lt_or_ge i k).elim (hgo i hi) (fun h' => by have hik : i = k := (by omega); subst hik; exact hwk)
          have hsc := linesT_succ (l := l) (k := k) (by omega)
          rw [← hel] at hsc
          have hl1 := hlen (k + 1) hgd
          rw [hsc, List.length_append] at hl1
          refine T_region rfl ?_
          refine O_m rfl ?_
          refine O_s (S_call (H1 := [_]) hs rfl Tryz.func32 rfl (by kernel_rfl) (join_ok (l := [kwF e.kind.toNat]) (by simp) (by simp) (by omega)) fun v38 G' H' _ hR hG70 hs => ?_)
          obtain ⟨rfl, rfl⟩ := hR
          replace hs : St _ _ [_, _, _, _, _] _ := hs
          replace hx := hx.mono hG70
          replace hT := hT.mono hG70
          replace hbe := hbe.mono hG70
          refine O_y hs (Y_cat rfl rfl (by simp only [List.length_singleton]; omega) ?_)
          have hs := hs.f4
          have hs := hs.f4
          refine O_s (S_call (H1 := [_, _]) hs rfl Tryz.func31 rfl (by kernel_rfl) (wst_ok (l := linesT (l.take k)) (s := joinT [kwF e.kind.toNat] ++ [10]) hbq (by omega) (by rw [List.length_append, List.length_singleton]; omega)) fun v39 G' H' _ hR hG72 hs => ?_)
          obtain ⟨wz72, rfl, rfl⟩ := hR
          replace hs : St _ _ [_, _, _, _, _] _ := hs
          replace hx := hx.mono hG72
          replace hT := hT.mono hG72
          replace hbe := hbe.mono hG72
          refine O_nil (T_kp [3, 9, 10, 11] rfl ?_)
          refine T_region rfl ?_
          refine O_y hs (Y_add (c := ((k + 1 : Nat) : Int)) rfl rfl (by omega) (by omega) ?_)
          refine O_m rfl ?_
          have hs := hs.f1
          have hs := hs.f1
          refine O_nil ⟨_, ?_, [(3, _), (9, _), (10, _), (11, _)], ⟨rfl, rfl, rfl, rfl, trivial⟩, ⟨k + 1, _, _, _, by omega, hgd, fun h => absurd h (by omega), .inr rfl, rfl, rfl, by rw [hsc, ← hln]; exact hs.weak hs.le (Ghost.le.refl _) (List.sublist_append_left [_, _] _)⟩⟩
          omega
 ·
  dsimp only [cmpP] at h12
  refine O_nil (T_kp [3, 9, 10, 11, 12] rfl ?_)
  refine T_seq (T_condF rfl (T_exit ?_))
  have hkl : l.take k = l := List.take_of_length_le (by omega)
  refine T_seq (T_region rfl ?_)
  have hs := hs.f1
  have hs := hs.f1
  refine O_s (S_call (H1 := [_, _]) hs rfl Tryz.func33 rfl (by kernel_rfl) (bstr_any (l := linesT (l.take k)) (fun h => hv0 (by have := congrArg List.length (lines_nil h); rw [List.length_take, List.length_nil] at this; omega)) (by have := hlen k hgo; omega)) fun v40 G' H' _ hR hG74 hs => ?_)
  obtain ⟨rfl, rfl⟩ := hR
  replace hs : St _ _ [] _ := hs
  replace hx := hx.mono hG74
  replace hT := hT.mono hG74
  refine O_a rfl ?_
  refine O_nil (T_kp [2] rfl ?_)
  refine T_ret ?_
  refine Rt_fin (vs := [_]) Tryz.results17 rfl ⟨rfl, trivial⟩ ?_
  try dsimp only [tup]
  exact ⟨_, [], hs.done, rfl, by rw [fmt_good (fun i hi => hgo i hi (by omega)), hkl]⟩

end Go.Proofs.YtcnljflihhggiaaGreatDoor
