/- Maps whose keys are structs of two integers. -/
import Derived.Test.YtcnljflihhggiaaGreatDoorExBuild
import Derived.Test.YtcnljflihhggiaaGreatDoorExMaps
namespace Go.Ex
open Go Go.RowKit

/-- A key. -/
def K2 (a b : Int) : Value := .agg #[.int .i64 a, .int .i64 b]
theorem K2_inj {a b c d : Int} : K2 a b = K2 c d ↔ a = c ∧ b = d := by
  constructor
  · intro h; injection h with h; simp at h; exact h
  · rintro ⟨rfl, rfl⟩; rfl
/-- The type of such keys. -/
structure Key2 (P : Program) (kt : TypeId) : Prop where
  fs : ∃ f0 f1 : Field, P.underlying kt = some (.struct #[f0, f1]) ∧ f0.name ≠ "_" ∧ f1.name ≠ "_" ∧ f0.offset = 0 ∧ f1.offset = 1 ∧
    P.underlying f0.type = some (.int .i64) ∧ P.underlying f1.type = some (.int .i64) ∧ (∀ w, (isAgg f0.type).run P w = .ok false w) ∧ (∀ w, (isAgg f1.type).run P w = .ok false w)
  held : P.stoodInHeld kt = false
theorem Key2.eq {P : Program} {kt : TypeId} (h : Key2 P kt) (a b c d : Int) (w : World) : (Op.equal kt (K2 a b) (K2 c d)).run P w = .ok (decide (a = c ∧ b = d)) w := by
  obtain ⟨⟨f0, f1, hu, hn0, hn1, ho0, ho1, ht0, ht1, hA0, hA1⟩, hh⟩ := h
  have hf : P.fieldsOf kt = #[f0, f1] := by unfold Program.fieldsOf; rw [hu]
  have p0 : ∀ (u v : Value) (w : World), (part f0.type #[u, v] f0.offset).run P w = .ok u w := fun u v w => part1 hA0 (by rw [ho0]; rfl)
  have p1 : ∀ (u v : Value) (w : World), (part f1.type #[u, v] f1.offset).run P w = .ok v w := fun u v w => part1 hA1 (by rw [ho1]; rfl)
  unfold K2 Op.equal Op.maxDepth
  rw [run_equalIn_struct w 9999 kt _ _ (by rw [hf]; exact hu) hh, hf]
  show (Op.eqFields 9999 _ _ [f0, f1]).run P w = _
  simp only [Op.eqFields, if_pos hn0, if_pos hn1, Sem.run_bind, p0, p1, Result.andThen_ok, run_equalIn_int w 9998 f0.type _ _ _ _ ht0]
  by_cases h1 : a = c
  · subst h1
    simp only [beq_self_eq_true, Bool.not_true, Bool.false_eq_true, if_false, Sem.run_bind, p1, Result.andThen_ok, run_equalIn_int w 9998 f1.type _ _ _ _ ht1]
    by_cases h2 : b = d
    · subst h2; simp [Op.eqFields]
    · have : (b == d) = false := by simpa using h2
      simp [this, h2]
  · have : (a == c) = false := by simpa using h1
    simp [this, h1]
theorem Key2.check {P : Program} {kt : TypeId} (h : Key2 P kt) (em : Bool) (a b : Int) (w : World) : (Instr.checkKey em 10000 kt (K2 a b)).run P w = .ok () w := by
  obtain ⟨⟨f0, f1, hu, hn0, hn1, ho0, ho1, ht0, ht1, hA0, hA1⟩, hh⟩ := h
  have p0 : ∀ (u v : Value) (w : World), (part f0.type #[u, v] f0.offset).run P w = .ok u w := fun u v w => part1 hA0 (by rw [ho0]; rfl)
  have p1 : ∀ (u v : Value) (w : World), (part f1.type #[u, v] f1.offset).run P w = .ok v w := fun u v w => part1 hA1 (by rw [ho1]; rfl)
  have c0 : ∀ w, (Instr.checkKey em 9999 f0.type (.int .i64 a)).run P w = .ok () w := fun w => MapKept.run_checkKey (k := .int .i64 a) ht0 (by simp [MapKept.IsKey]) em 9998
  have c1 : ∀ w, (Instr.checkKey em 9999 f1.type (.int .i64 b)).run P w = .ok () w := fun w => MapKept.run_checkKey (k := .int .i64 b) ht1 (by simp [MapKept.IsKey]) em 9998
  unfold K2
  rw [Instr.checkKey]
  simp only [Sem.run_bind, run_underlying hu, Result.andThen_ok]
  rw [← Array.forIn_toList]
  simp only [List.forIn_cons, List.forIn_nil, if_pos hn0, if_pos hn1, Sem.run_bind, p0, p1, Result.andThen_ok, c0, c1, Sem.run_pure]
def Keys2 (es : List MapEntry) : Prop := ∀ e ∈ es, ∃ a b, e.key = K2 a b
theorem Key2.asking {P : Program} {kt : TypeId} (h : Key2 P kt) (a b : Int) : ∀ (es : List MapEntry) (i : Nat), Keys2 es →
    ((∀ w, (Instr.findAsking kt (K2 a b) es i).run P w = .ok none w) ∧ ∀ e ∈ es, e.key ≠ K2 a b) ∨ ∃ j, ∃ e ∈ es, (∀ w, (Instr.findAsking kt (K2 a b) es i).run P w = .ok (some (j, e.val)) w) ∧ e.key = K2 a b
  | [], i, _ => .inl ⟨fun w => by simp [Instr.findAsking], by simp⟩
  | e :: es, i, hk => by
    obtain ⟨c, d, hcd⟩ := hk e (by simp)
    have hr := fun w => h.eq a b c d w
    by_cases hab : a = c ∧ b = d
    · right
      refine ⟨i, e, by simp, fun w => ?_, by rw [hcd, hab.1, hab.2]⟩
      rw [Instr.findAsking, Sem.run_bind, hcd, hr, decide_eq_true hab]
      simp
    · have hne : e.key ≠ K2 a b := fun he => by rw [hcd, K2_inj] at he; exact hab ⟨he.1.symm, he.2.symm⟩
      rcases h.asking a b es (i + 1) (fun x hx => hk x (by simp [hx])) with ⟨h1, h2⟩ | ⟨j, e', h1, h2, h3⟩
      · left
        refine ⟨fun w => ?_, fun x hx => ?_⟩
        · rw [Instr.findAsking, Sem.run_bind, hcd, hr, decide_eq_false hab]; simp [h1]
        · rcases List.mem_cons.1 hx with rfl | hx
          · exact hne
          · exact h2 x hx
      · right
        exact ⟨j, e', by simp [h1], fun w => by rw [Instr.findAsking, Sem.run_bind, hcd, hr, decide_eq_false hab]; simp [h2], h3⟩
theorem Key2.find {P : Program} {kt : TypeId} (h : Key2 P kt) (a b : Int) (es : List MapEntry) (hk : Keys2 es) :
    ((∀ w, (Instr.findKey kt (K2 a b) es).run P w = .ok none w) ∧ ∀ e ∈ es, e.key ≠ K2 a b) ∨ ∃ j, ∃ e ∈ es, (∀ w, (Instr.findKey kt (K2 a b) es).run P w = .ok (some (j, e.val)) w) ∧ e.key = K2 a b := by
  obtain ⟨f0, f1, hu, _⟩ := h.fs
  cases es with
  | nil => exact .inl ⟨fun w => by simp [Instr.findKey, run_underlying hu, Instr.findNow], by simp⟩
  | cons e es =>
    obtain ⟨c, d, hcd⟩ := hk e (by simp)
    have hn : Instr.findNow (.struct #[f0, f1]) (K2 a b) (e :: es) 0 = none := by
      rw [Instr.findNow, hcd]; rfl
    have hf : ∀ w, (Instr.findKey kt (K2 a b) (e :: es)).run P w = (Instr.findAsking kt (K2 a b) (e :: es) 0).run P w := fun w => by
      simp only [Instr.findKey, Sem.run_bind, run_underlying hu, Result.andThen_ok, hn]
    simp only [hf]
    exact h.asking a b (e :: es) 0 hk
section
variable {x : Cx} {Q : Exit → Env → World → Prop} {E : Env} {d : Option Tmp} {ty : TypeId} {pos : String} {aft : Array Edge} {g : Option (Nat × Bool)} {c : Ctx} {G : Ghost} {H : List Res}
theorem Y_lookup2 {K : Value → Prop} {t kt et : TypeId} {m kx : Operand} {b clk : Nat} {es : List MapEntry} {p q : Int} {z : Value} (i : Nat) (hi : H[i]? = some (.obj b (.map es.toArray clk))) (hu : x.P.underlying t = some (.map kt et)) (hk : Key2 x.P kt) (hz : ∀ w, (zeroValue et).run x.P w = .ok z w) (hes : Keys2 es)
    (h1 : ev E m = some (.map (some b))) (h2 : ev E kx = some (K2 p q)) (kf : (∀ e ∈ es, e.key ≠ K2 p q) → K (.tuple #[z, .bool false])) (kt' : ∀ e ∈ es, e.key = K2 p q → K (.tuple #[e.val, .bool true])) : Y x (St c G H) ⟨d, .lookup t m kx true, ty, pos, aft, g⟩ E K := by
  rcases hk.find p q es hes with ⟨h3, h4⟩ | ⟨j, e, he, h3, h4⟩
  · refine Y_of (v := .tuple #[z, .bool false]) (fun a ha w hw => ?_) (kf h4)
    have hb : w.heap[b]? = some (.map es.toArray clk) := hw.hold _ (List.mem_of_getElem? hi)
    simp only [execOp, ha.ev h1, ha.ev h2]
    simp [Instr.lookup, run_underlying hu, MapKept.run_getObj_map hb, hk.check, h3, hz, Result.andThen]
  · refine Y_of (v := .tuple #[e.val, .bool true]) (fun a ha w hw => ?_) (kt' e he h4)
    have hb : w.heap[b]? = some (.map es.toArray clk) := hw.hold _ (List.mem_of_getElem? hi)
    simp only [execOp, ha.ev h1, ha.ev h2]
    simp [Instr.lookup, run_underlying hu, MapKept.run_getObj_map hb, hk.check, h3, Result.andThen]
theorem S_mapPut2 {K : Value → World → Prop} {w : World} {t kt et : TypeId} {m kx vx : Operand} {b clk : Nat} {es : List MapEntry} {p q : Int} {v : Value} (hs : St c G (.obj b (.map es.toArray clk) :: H) w) (hu : x.P.underlying t = some (.map kt et)) (hk : Key2 x.P kt) (hes : Keys2 es)
    (h1 : ev E m = some (.map (some b))) (h2 : ev E kx = some (K2 p q)) (h3 : ev E vx = some v) (hno : ∀ e ∈ es, e.key ≠ K2 p q)
    (k : ∀ w', St c G (.obj b (.map (es ++ [mapE (K2 p q) v clk]).toArray (clk + 1)) :: H) w' → K undef w') : S x ⟨d, .mapUpdate t m kx vx, ty, pos, aft, g⟩ Q K E w := by
  have hb : w.heap[b]? = some (.map es.toArray clk) := hs.hold (.obj b (.map es.toArray clk)) (by simp)
  have hf : ∀ w, (Instr.findKey kt (K2 p q) es).run x.P w = .ok none w := by
    rcases hk.find p q es hes with ⟨h3, _⟩ | ⟨j, e, he, _, h4⟩
    · exact h3
    · exact absurd h4 (hno e he)
  have hr : (Instr.mapUpdate t (.map (some b)) (K2 p q) v).run x.P w = .ok () (w.putObj b (.map (es ++ [mapE (K2 p q) v clk]).toArray (clk + 1))) := by
    simp [Instr.mapUpdate, run_underlying hu, MapKept.run_getObj_map hb, hk.check, hf, MapKept.run_setObj_map _ hb, Result.andThen, World.putObj, mapE]
  refine S_skip rfl fun a ha => ⟨w.putObj b (.map (es ++ [mapE (K2 p q) v clk]).toArray (clk + 1)), ?_, k _ (hs.write rfl rfl rfl (by simp) (fun k _ hk => World.putObj_heap_other hk) (World.putObj_heap_same (lt_of_get hb)) (fun k hk => .inl hk))⟩
  simp only [execOp, ha.ev h1, ha.ev h2, ha.ev h3]
  simp [hr]
end
/-- The length of a slice of bytes. -/
theorem Y_lenB {x : Cx} {E : Env} {d : Option Tmp} {ty : TypeId} {pos : String} {aft : Array Edge} {g : Option (Nat × Bool)} {W : World → Prop} {K : Value → Prop} {o : Operand} {t e : TypeId} {G : Ghost} {v : Value} {bs : List UInt8} (hu : x.P.underlying t = some (.slice e)) (hb : Bytes G v bs) (h1 : ev E o = some v)
    (k : K (.int .i64 (bs.length : Int))) : Y x W ⟨d, .call { callee := .builtin .len, args := #[o], argTypes := #[t] }, ty, pos, aft, g⟩ E K := by
  obtain ⟨A, c, rfl, _⟩ := hb
  exact Y_len hu h1 k
end Go.Ex
