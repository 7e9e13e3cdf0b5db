/- Strings that are joined; strings.Builder. -/
import Derived.Test.YtcnljflihhggiaaGreatDoorExEqs
import Derived.Lib.AppendStr
import Derived.Lib.UnsafeStr
import Derived.Lib.Builder
import Derived.Laws.Externs
namespace Go.Ex
open Go Go.RowKit
section
variable {x : Cx} {W : World → Prop} {E : Env} {K : Value → Prop} {d : Option Tmp} {ty : TypeId} {pos : String} {aft : Array Edge} {g : Option (Nat × Bool)} {o q : Operand} {xt yt : TypeId}
theorem Y_cat {a b : List UInt8} (h1 : ev E o = some (.string ⟨a.toArray⟩)) (h2 : ev E q = some (.string ⟨b.toArray⟩)) (hl : a.length + b.length ≤ 1000000000) (k : K (.string ⟨(a ++ b).toArray⟩)) : Y x W ⟨d, .binOp .add xt o q yt, ty, pos, aft, g⟩ E K :=
  Y_of (v := .string ⟨(a ++ b).toArray⟩) (fun f hf w _ => by
    have hsz : ∀ s : List UInt8, (⟨s.toArray⟩ : ByteArray).size = s.length := fun s => by simp [ByteArray.size]
    have hap : (⟨a.toArray⟩ : ByteArray) ++ ⟨b.toArray⟩ = ⟨(a ++ b).toArray⟩ := by
      apply ByteArray.ext
      simp [ByteArray.data_append]
    have hmax : IntKind.i64.max = 9223372036854775807 := rfl
    have hn : ¬ ((9223372036854775807 : Int) < ((a.length + b.length : Nat) : Int)) := by omega
    have h' : (binOp .add xt (.string ⟨a.toArray⟩) (.string ⟨b.toArray⟩)).run x.P w = .ok (.string ⟨(a ++ b).toArray⟩) w := by
      have e : binOp .add xt (.string ⟨a.toArray⟩) (.string ⟨b.toArray⟩) = Op.stringOp .add ⟨a.toArray⟩ ⟨b.toArray⟩ := rfl
      rw [e]
      unfold Op.stringOp
      simp only [hsz, hmax, gt_iff_lt]
      rw [if_neg hn, hap, Sem.run_pure]
    have hg : (eqGuard .add xt o q (.string ⟨a.toArray⟩) (.string ⟨b.toArray⟩)).run x.P w = .ok () w := rfl
    simp only [execOp, hf.ev h1, hf.ev h2, Sem.run_bind, hg, Result.andThen_ok, h', Sem.run_pure]) k
theorem Y_ptrNilT {e : TypeId} (hp : x.P.underlying xt = some (.pointer e)) (h1 : ev E o = some (.pointer none)) (k : K (.bool true)) : Y x W ⟨d, .binOp .eql xt o (.const (.pointer none)) yt, ty, pos, aft, g⟩ E K :=
  Y_of (v := .bool true) (fun f hf w _ => by
    have h : ∀ q : Nat, (Op.equalIn (q + 1) xt (.pointer none) (.pointer none)).run x.P w = .ok true w := fun q => by simp [Op.equalIn, run_underlying hp]
    have h' : (binOp .eql xt (.pointer none) (.pointer none)).run x.P w = .ok (.bool true) w := by
      simp only [binOp]
      simp [Op.equal, Op.maxDepth, h 9999]
    have hc : f.eval (.const (.pointer none)) = .pointer none := rfl
    have hg : (eqGuard .eql xt o (.const (.pointer none)) (.pointer none) (.pointer none)).run x.P w = .ok () w := rfl
    simp only [execOp, hf.ev h1, hc, Sem.run_bind, hg, Result.andThen_ok, h', Sem.run_pure]) k
theorem Y_ptrNilF {e : TypeId} {a : Addr} (hp : x.P.underlying xt = some (.pointer e)) (h1 : ev E o = some (.pointer (some a))) (k : K (.bool false)) : Y x W ⟨d, .binOp .eql xt o (.const (.pointer none)) yt, ty, pos, aft, g⟩ E K :=
  Y_of (v := .bool false) (fun f hf w _ => by
    have h : ∀ q : Nat, (Op.equalIn (q + 1) xt (.pointer (some a)) (.pointer none)).run x.P w = .ok false w := fun q => by simp [Op.equalIn, run_underlying hp]
    have h' : (binOp .eql xt (.pointer (some a)) (.pointer none)).run x.P w = .ok (.bool false) w := by
      simp only [binOp]
      simp [Op.equal, Op.maxDepth, h 9999]
    have hc : f.eval (.const (.pointer none)) = .pointer none := rfl
    have hg : (eqGuard .eql xt o (.const (.pointer none)) (.pointer (some a)) (.pointer none)).run x.P w = .ok () w := rfl
    simp only [execOp, hf.ev h1, hc, Sem.run_bind, hg, Result.andThen_ok, h', Sem.run_pure]) k
theorem Y_ptrNeF {tp : TypeId} {j : TypeInfo} {a : Addr} (hp : x.P.underlying xt = some (.pointer tp)) (hj : x.P.info? tp = some j) (h1 : ev E o = some (.pointer (some a))) (h2 : ev E q = some (.pointer (some a))) (k : K (.bool false)) : Y x W ⟨d, .binOp .neq xt o q yt, ty, pos, aft, g⟩ E K :=
  Y_of (v := .bool false) (fun f hf w _ => by
    have h' := Lib.run_neq_ptr_same (P := x.P) w a hp hj
    have hg : (eqGuard .neq xt o q (.pointer (some a)) (.pointer (some a))).run x.P w = .ok () w := rfl
    simp only [execOp, hf.ev h1, hf.ev h2, Sem.run_bind, hg, Result.andThen_ok, h', Sem.run_pure]) k
theorem Y_sliceData {ats : Array TypeId} {a : Addr} {n c : Nat} (h1 : ev E o = some (.slice (some a) n c)) (hc : 0 < c) (k : K (.pointer (some a))) : Y x W ⟨d, .call { callee := .builtin .unsafeSliceData, args := #[o], argTypes := ats }, ty, pos, aft, g⟩ E K :=
  Y_of (v := .pointer (some a)) (fun f hf w _ => by
    have hr := Lib.run_unsafeSliceData_row (P := x.P) w ats ty a n c (by omega)
    simp [execOp, resolve, invoke, builtin, hf.ev h1, hr]) k
theorem Y_fieldAddrP {s i n : Nat} {p : Addr} (hf : fieldOff x.P s i = some n) (h : ev E o = some (.pointer (some p))) (k : K (.pointer (some (p.add n)))) : Y x W ⟨d, .fieldAddr s o i, ty, pos, aft, g⟩ E K :=
  Y_of (v := .pointer (some (p.add n))) (fun a ha w _ => by
    unfold fieldOff at hf
    cases hu : x.P.underlying s with
    | none => rw [hu] at hf; cases hf
    | some td =>
      rw [hu] at hf
      cases td with
      | struct fs =>
        simp only at hf
        cases hq : fs[i]? with
        | none => rw [hq] at hf; cases hf
        | some f =>
          rw [hq] at hf
          simp only [Option.bind_some] at hf
          cases ht : x.P.info? f.type with
          | none => rw [ht] at hf; cases hf
          | some t =>
            rw [ht] at hf
            simp only [Option.bind_some] at hf
            split at hf
            · cases hf
            · rename_i hz
              injection hf with hf
              subst hf
              simp [execOp, ha.ev h, Instr.fieldAt, Instr.sureAddr, run_underlying hu, hq, fieldPlace, sizeOf, typeInfo, ht, hz]
      | _ => simp at hf) k
/-- a[l:] of an array that no longer changes. -/
theorem Y_sliceArr {G : Ghost} {t e : TypeId} {b n : Nat} {kd : IntKind} {cs : List Value} (l : Nat) (hu : x.P.underlying t = some (.array n e)) (hs : ∀ w, (sizeOf e).run x.P w = .ok 1 w) (h1 : ev E o = some (.pointer (some ⟨b, 0, none⟩))) (h2 : ev E q = some (.int kd (l : Int))) (hl : l < n) (hn : n ≤ maxLen) (hc : cs.length = n)
    (hg : ∀ (i : Nat) (v : Value), cs[i]? = some v → gcell G ⟨b, i, none⟩ = some v) (k : ∀ v', Sl G v' 1 (n - l) (cs.drop l) → K v') : Y x W ⟨d, .slice t o (some q) none none, ty, pos, aft, g⟩ E K := by
  have ha : ∀ i, (⟨b, 0, none⟩ : Addr).add i = ⟨b, i, none⟩ := fun i => by
    unfold Addr.add; split
    · rename_i h0; simp [h0]
    · simp
  have ha2 : ∀ j, (⟨b, l, none⟩ : Addr).add j = ⟨b, l + j, none⟩ := fun j => by
    unfold Addr.add; split
    · rename_i h0; simp [h0]
    · simp
  refine Y_of (v := .slice (some ⟨b, l, none⟩) (n - l) (n - l)) (fun f hf w _ => ?_) (k _ ⟨_, _, rfl, by rw [List.length_drop]; omega, Nat.le_refl _, by omega, fun _ => ⟨_, rfl, fun j u hj => ?_⟩⟩)
  · have hne : ¬ n = l := by omega
    have hle : l ≤ n := by omega
    simp [execOp, hf.ev h1, hf.ev h2, Instr.sliceAt, Instr.sureAddr, Instr.sliceBounds, Instr.sliceBound, asIntOf, run_underlying hu, hs w, hle, hne, ha]
  · rw [List.getElem?_drop] at hj
    rw [ha2]; exact hg _ _ hj
/-- internal/abi.NoEscape -/
theorem Y_noEscape {f : FuncId} {fn : Func} {v : Value} {ats : Array TypeId} (hfn : x.P.funcs[f]? = some fn) (hnm : (fn.name == "runtime.NumGoroutine") = false) (hb : fn.body.isNone = true) (hN : Extern.findNext fn = none) (hF : Extern.find fn = some Extern.AbiNoEscape.same)
    (h1 : ev E o = some v) (k : K v) : Y x W ⟨d, .call { callee := .value (.func f), args := #[o], argTypes := ats }, ty, pos, aft, g⟩ E K :=
  Y_of (v := v) (fun a ha w _ => by
    have hr : (callFunc f #[v]).run x.P w = .ok (.value v) w := by
      rw [run_callFunc_extern hfn hnm hb hN hF]; rfl
    have hc : a.eval (.func f) = .func (.func f) #[] #[] := rfl
    simp [execOp, resolve, Deferred.ofValue, hc, invoke, ha.ev h1, hr]) k
end
section
variable {x : Cx} {E : Env} {K : Value → Prop} {d : Option Tmp} {ty : TypeId} {pos : String} {aft : Array Edge} {g : Option (Nat × Bool)} {o q : Operand} {c : Ctx} {G : Ghost} {H : List Res}
theorem Y_toUnsafe {src dst t e : TypeId} {j : TypeInfo} {b off : Nat} {cs : List Value} (i : Nat) (hi : H[i]? = some (.blk b e cs)) (hs : x.P.underlying src = some (.pointer t)) (hd : x.P.underlying dst = some .unsafePointer) (ht : x.P.info? t = some j) (hj : j.size ≠ 0) (hoff : off < cs.length)
    (h1 : ev E o = some (.pointer (some ⟨b, off, none⟩))) (k : K (.pointer (some ⟨b, off, none⟩))) : Y x (St c G H) ⟨d, .convert src dst o, ty, pos, aft, g⟩ E K :=
  Y_of (v := .pointer (some ⟨b, off, none⟩)) (fun f hf w hw => by
    have hb : w.heap[b]? = some (.cells cs.toArray e (0, 0)) := hw.hold _ (List.mem_of_getElem? hi)
    have hsh : w.shape? b = some (e, cs.length) := by simp [World.shape?, hb]
    have h' := Lib.run_to_unsafe (P := x.P) w (cells := cs.length) ⟨b, off, none⟩ hs hd ht hj hsh hoff
    simp [execOp, hf.ev h1, h']) k
theorem Y_fromUnsafe {src dst u e : TypeId} {j : TypeInfo} {b off : Nat} {cs : List Value} (i : Nat) (hi : H[i]? = some (.blk b e cs)) (hs : x.P.underlying src = some .unsafePointer) (hd : x.P.underlying dst = some (.pointer u)) (hu : x.P.info? u = some j) (hlies : liesAt x.P x.P.depth e (cs.length / x.P.cellsOf e) off u 1 = true)
    (h1 : ev E o = some (.pointer (some ⟨b, off, none⟩))) (k : K (.pointer (some ⟨b, off, none⟩))) : Y x (St c G H) ⟨d, .convert src dst o, ty, pos, aft, g⟩ E K :=
  Y_of (v := .pointer (some ⟨b, off, none⟩)) (fun f hf w hw => by
    have hb : w.heap[b]? = some (.cells cs.toArray e (0, 0)) := hw.hold _ (List.mem_of_getElem? hi)
    have hsh : w.shape? b = some (e, cs.length) := by simp [World.shape?, hb]
    have h' := Lib.run_from_unsafe (P := x.P) w (cells := cs.length) ⟨b, off, none⟩ hs hd hu hsh hlies
    simp [execOp, hf.ev h1, h']) k
end
theorem strCells_eq (s : List UInt8) : Lib.strCells ⟨s.toArray⟩ = s.map byteV := rfl
/-- append of a string's bytes onto a row. -/
theorem append_str {P : Program} {w : World} {t u ty e : TypeId} (ht : P.underlying t = some (.slice e)) (hu : P.underlying u = some .string) (hi : TI P e (.int .u8 0) 1 1) {v : Value} {n : Nat} {xs : List Value} (hown : w.ownsRow 0 e 1 v n xs) (s : List UInt8) (hm : n + s.length ≤ 140737488355328) :
    ∃ v' w', (Builtin.append_ #[t, u] ty #[v, .string ⟨s.toArray⟩]).run P w = .ok v' w' ∧ w'.ownsRow 0 e 1 v' (n + s.length) (xs ++ s.map byteV) ∧ w.grownBy w' v.ownBlock ∧ ∀ j, v'.ownBlock = some j → v.ownBlock = some j ∨ w.heap.size ≤ j := by
  obtain ⟨i, hi, hz, hik, hib⟩ := hi
  have hsz : (⟨s.toArray⟩ : ByteArray).size = s.length := by simp [ByteArray.size]
  have hml : n + s.length ≤ maxLen := by unfold maxLen; omega
  obtain ⟨v', w', hr, h2, h3, _⟩ := Lib.run_append_own_string (P := P) w 0 t u ty e i ht hu hi hz hik hib v n xs hown ⟨s.toArray⟩ (by rw [hsz]; exact hml) (by rw [hsz]; exact hm) (Nat.zero_le _)
  rw [hsz, strCells_eq] at h2
  refine ⟨v', w', hr, h2, h3, fun j hj => ?_⟩
  rcases hown.2 with ⟨rfl, rfl⟩ | ⟨b, cap, cur, rfl, _, hg, hnc, hcm, hcs, htake⟩
  · obtain rfl : xs = [] := List.eq_nil_of_length_eq_zero (by simpa using hown.1)
    obtain ⟨v2, w2, hr2, h4, _⟩ := Lib.run_append_own_string (P := P) w w.heap.size t u ty e i ht hu hi hz hik hib (.slice none 0 0) 0 [] (World.ownsRow_nil w _ e 1) ⟨s.toArray⟩ (by rw [hsz]; exact hml) (by rw [hsz]; exact hm) (Nat.le_refl _)
    rw [hr] at hr2
    injection hr2 with e1 e2
    subst e1
    rcases h4.2 with ⟨rfl, _⟩ | ⟨b, _, _, rfl, hb, _⟩
    · cases hj
    · right; have : b = j := by simpa [Value.ownBlock] using hj
      omega
  · by_cases hroom : n + s.length ≤ cap
    · have hr2 := Lib.run_append_room_string (P := P) w t u ty e i ht hu hi hik b n cap cur hg ⟨s.toArray⟩ (by rw [hsz]; exact hroom) (by rw [hsz, hcs]; omega)
      rw [hr] at hr2
      injection hr2 with e1 e2
      subst e1
      exact .inl hj
    · have holds : ∀ j u, xs[j]? = some u → w.cell? ((⟨b, 0, none⟩ : Addr).add j) = some u := hown.cells (g := b) rfl
      have hr2 := Lib.run_append_grow_string (P := P) w t u ty e i (.int .u8 0) ht hu hi hz ⟨b, 0, none⟩ n cap xs (by rw [hik]; exact hown.1) holds ⟨s.toArray⟩ (by rw [hsz]; omega) (by rw [hsz]; omega) (by rw [hsz, hib]; exact growslice_fits (by omega) (by omega))
      rw [hr] at hr2
      injection hr2 with e1 e2
      subst e1
      right; injection hj with hj; exact Nat.le_of_eq hj
section
variable {x : Cx} {Q : Exit → Env → World → Prop} {E : Env} {K : Value → World → Prop} {w : World} {d : Option Tmp} {ty : TypeId} {pos : String} {aft : Array Edge} {g : Option (Nat × Bool)} {c : Ctx} {G : Ghost} {H : List Res}
theorem S_appendStr {o p : Operand} {t u e : TypeId} {v : Value} {n : Nat} {xs : List Value} {s : List UInt8} (hs : St c G (.row e 1 v n xs :: H) w) (ht : x.P.underlying t = some (.slice e)) (hu : x.P.underlying u = some .string) (hi : TI x.P e (.int .u8 0) 1 1)
    (ho : ev E o = some v) (hp : ev E p = some (.string ⟨s.toArray⟩)) (hm : n + s.length ≤ 140737488355328)
    (kk : ∀ v' w', St c G (.row e 1 v' (n + s.length) (xs ++ s.map byteV) :: H) w' → K v' w') : S x ⟨d, .call { callee := .builtin .append, args := #[o, p], argTypes := #[t, u] }, ty, pos, aft, g⟩ Q K E w := by
  have hown : w.ownsRow 0 e 1 v n xs := hs.hold (.row e 1 v n xs) (by simp)
  obtain ⟨v', w', hr, h2, h3, h4⟩ := append_str (ty := ty) ht hu hi hown s hm
  refine S_val rfl fun a ha => ⟨v', w', ?_, kk _ _ (hs.write h3.os h3.tape h3.output h3.size (fun j hj hne => h3.block j hj (fun he => hne he.symm)) h2 (fun j hj => h4 j hj))⟩
  simp [execOp, resolve, invoke, builtin, ha.ev ho, ha.ev hp, hr]
/-- unsafe.String over a row of one's own: it is given up. -/
theorem S_unsafeString {o p : Operand} {pt it e b n cap : Nat} {l : List UInt8} (hs : St c G (.row e 1 (.slice (some ⟨b, 0, none⟩) n cap) n (l.map byteV) :: H) w) (hp : x.P.underlying pt = some (.pointer e)) (hc : x.P.cellsOf e = 1) (h0 : l ≠ []) (hn : n ≤ 9223372036854775807)
    (h1 : ev E o = some (.pointer (some ⟨b, 0, none⟩))) (h2 : ev E p = some (.int .i64 (n : Int))) (kk : ∀ w', St c G H w' → K (.string ⟨l.toArray⟩) w') : S x ⟨d, .call { callee := .builtin .unsafeString, args := #[o, p], argTypes := #[pt, it] }, ty, pos, aft, g⟩ Q K E w := by
  have hown : w.ownsRow 0 e 1 (.slice (some ⟨b, 0, none⟩) n cap) n (l.map byteV) := hs.hold (.row e 1 _ n _) (by simp)
  have hln : l.length = n := by simpa using hown.1
  subst hln
  rcases hown.2 with ⟨h, _⟩ | ⟨g', cp, cur, h, _, hh, hnc, hcm, hsz, htk⟩
  · cases h
  injection h with h1' h2' h3'
  injection h1' with h1'
  injection h1' with h1'
  subst h1' h3'
  have hsh : w.shape? b = some (e, cur.size) := by simp [World.shape?, hh]
  have hcell : ∀ j x, l[j]? = some x → w.cell? ((⟨b, 0, none⟩ : Addr).add j) = some (.int .u8 x.toNat) := fun j y hy => hown.cells (g := b) rfl j _ (by rw [List.getElem?_map, hy]; rfl)
  have hr := Lib.run_unsafeString_row (P := x.P) w pt it ty e hp hc b cur.size hsh l h0 (by omega) hn hcell
  have hfr : ∃ f, (w.freeze ⟨b, 0, none⟩ l.length).heap[b]? = some (.cells cur e f) := by
    unfold World.freeze
    split
    · exact ⟨_, hh⟩
    · show ∃ f, (w.heap.modify b _)[b]? = _
      rw [Array.getElem?_modify]
      simp [hh]
  obtain ⟨f, hf⟩ := hfr
  have hs1 : St c G (.obj b (.cells cur e f) :: H) (w.freeze ⟨b, 0, none⟩ l.length) := by
    refine hs.write ?_ ?_ ?_ ?_ ?_ hf ?_
    · unfold World.freeze; split <;> rfl
    · unfold World.freeze; split <;> rfl
    · unfold World.freeze; split <;> rfl
    · unfold World.freeze; split <;> simp
    · intro k hk hne
      have hkb : b ≠ k := fun h => hne (by simp [Res.foot, Value.ownBlock, h])
      unfold World.freeze; split
      · rfl
      · show (w.heap.modify b _)[k]? = _
        rw [Array.getElem?_modify, if_neg hkb]
    · intro k hk
      have hk' : k = b := hk
      left; simp [Res.foot, Value.ownBlock, hk']
  refine S_val rfl fun a ha => ⟨_, _, ?_, kk _ hs1.drop⟩
  simp [execOp, resolve, invoke, builtin, ha.ev h1, ha.ev h2, hr]
end
end Go.Ex
