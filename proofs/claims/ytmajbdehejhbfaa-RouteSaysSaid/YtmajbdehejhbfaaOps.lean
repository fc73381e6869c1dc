/-
  What each operation comes to, over functions from slots to values. Nothing of a program stands here.
-/
import Derived.Test.YtmajbdehejhbfaaE
import Derived.Deep.MidRow
import Derived.WalkSpells
import Derived.WalkLawsBesides
namespace Go.E
open Go
variable {P : Program} {ρ : Env} {w w' : World} {d : Option Tmp} {ty : TypeId} {ps : String} {af : Array Edge} {g : Option (Nat × Bool)}

theorem r_move {x : Operand} {v : Value} (h : ev ρ x = v) : (execOp (ev ρ) ⟨d, .move x, ty, ps, af, g⟩).run P w = .ok (.value v) w := by subst h; rfl
theorem r_assign {x : Operand} {v : Value} (h : ev ρ x = v) : (execOp (ev ρ) ⟨d, .assign x, ty, ps, af, g⟩).run P w = .ok (.value v) w := by subst h; rfl
theorem r_pick_t {c x y : Operand} {b : Bool} {v : Value} (hc : ev ρ c = .bool b) (hb : b = true) (h : ev ρ x = v) : (execOp (ev ρ) ⟨d, .pick c x y, ty, ps, af, g⟩).run P w = .ok (.value v) w := by
  subst hb; subst h; simp [execOp, hc, asBool]
theorem r_pick_f {c x y : Operand} {b : Bool} {v : Value} (hc : ev ρ c = .bool b) (hb : b = false) (h : ev ρ y = v) : (execOp (ev ρ) ⟨d, .pick c x y, ty, ps, af, g⟩).run P w = .ok (.value v) w := by
  subst hb; subst h; simp [execOp, hc, asBool]
theorem r_nil {x : Operand} {a : Addr} (h : ev ρ x = .pointer (some a)) : (execOp (ev ρ) ⟨d, .nilCheck x, ty, ps, af, g⟩).run P w = .ok (.value (.pointer (some a))) w := by
  simp [execOp, h]
theorem r_not {x : Operand} {t : TypeId} {b : Bool} (h : ev ρ x = .bool b) : (execOp (ev ρ) ⟨d, .unOp .not t x, ty, ps, af, g⟩).run P w = .ok (.value (.bool !b)) w := by
  simp [execOp, h, Op.unary]
theorem r_extract {x : Operand} {vs : Array Value} {i : Nat} {v : Value} (h : ev ρ x = .tuple vs) (hv : vs[i]? = some v) : (execOp (ev ρ) ⟨d, .extract x i, ty, ps, af, g⟩).run P w = .ok (.value v) w := by
  simp [execOp, h, Instr.extract, hv]
theorem r_func {fn : Fn} {fs cs : Array Operand} {vs us : Array Value} (h : fs.map (ev ρ) = vs) (hc : cs.map (ev ρ) = us) : (execOp (ev ρ) ⟨d, .makeFunc fn fs cs, ty, ps, af, g⟩).run P w = .ok (.value (.func fn vs us)) w := by
  subst h; subst hc; rfl

/-! ### Memory -/
theorem addr_add (b o j : Nat) : (⟨b, o, none⟩ : Addr).add j = ⟨b, o + j, none⟩ := Addr.add_mid b o j
/-- 'P's variable of type t at p holds v. -/
def Ld (P : Program) (w : World) (t : TypeId) (p : Addr) (v : Value) : Prop := (loadVar t p).run P w = .ok v w
theorem ld1 {t : TypeId} {p : Addr} {v : Value} {D : TypeDesc} (hu : P.underlying t = some D) (hd : D.isRow = false) (hc : w.cell? p = some v) : Ld P w t p v := by
  have hagg : (isAgg t).run P w = .ok false w := by
    unfold isAgg
    rw [Sem.run_bind, run_underlying hu w]
    cases D <;> simp_all [TypeDesc.isRow]
  simp [Ld, loadVar, Sem.run_bind, hagg, hc]
theorem ldk {t : TypeId} {b o : Nat} {cs : List Value} {D : TypeDesc} (hu : P.underlying t = some D) (hd : D.isRow = true) (hi : (P.info? t).map (·.size) = some cs.length) (hc : w.rangeAt b o cs) :
    Ld P w t ⟨b, o, none⟩ (.agg cs.toArray) := run_loadVar_mid w b o t cs D hc hu hd hi
theorem r_load {x : Operand} {t : TypeId} {p : Addr} {v : Value} (h : ev ρ x = .pointer (some p)) (hl : Ld P w t p v) : (execOp (ev ρ) ⟨d, .load t x, ty, ps, af, g⟩).run P w = .ok (.value v) w := by
  unfold Ld at hl
  simp [execOp, h, Instr.loadAt, Instr.sureAddr, hl]
/-- .. and is given v' in its place. -/
def St (P : Program) (w : World) (t : TypeId) (p : Addr) (v : Value) (w' : World) : Prop := (storeVar t p v).run P w = .ok () w'
theorem st1 {t : TypeId} {p : Addr} {v u : Value} (hi : (P.info? t).map (·.size) = some 1) (h1 : v.oneCell' = true) (hc : w.cell? p = some u) (hf : w.frozen? p = false) : St P w t p v (w.setCell p v) := by
  cases hq : P.info? t with
  | none => simp [hq] at hi
  | some i =>
    have hs : i.size = 1 := by simpa [hq] using hi
    have hcs : v.cells = #[v] := by cases v <;> simp_all [Value.cells, Value.oneCell']
    have ha : p.add 0 = p := by simp [Addr.add]
    have hst : (store p v).run P w = .ok () (w.setCell p v) := by rw [run_store P w p v _ h1]; simp [hc, hf]
    simp [St, storeVar, sizeOf, typeInfo, hq, hs, hcs, storeCells, ha, hst]
theorem stk {t : TypeId} {b o : Nat} {cs : List Value} (hi : (P.info? t).map (·.size) = some cs.length) (h1 : ∀ v ∈ cs, v.oneCell' = true) (ht : w.there b o cs.length) : St P w t ⟨b, o, none⟩ (.agg cs.toArray) (w.setCells b o cs) := by
  have := run_storeVar_mid (P := P) w b o t cs.toArray (by simpa using ht) (by simpa using hi) (by simpa using h1)
  simpa [St] using this
theorem r_store {x y : Operand} {t : TypeId} {p : Addr} {v : Value} (h : ev ρ x = .pointer (some p)) (hv : ev ρ y = v) (hs : St P w t p v w') : (execOp (ev ρ) ⟨d, .store t x y, ty, ps, af, g⟩).run P w = .ok .skip w' := by
  unfold St at hs
  simp [execOp, h, hv, Instr.storeAt, Instr.sureAddr, hs]
theorem r_box {x : Operand} {t : TypeId} {v : Value} (h : ev ρ x = v) : (execOp (ev ρ) ⟨d, .box t x, ty, ps, af, g⟩).run P w = .ok (.value (.pointer (some ⟨w.heap.size, 0, none⟩))) (w.alloc (.cells v.cells t)) := by
  subst h; rfl
theorem r_alloc {t : TypeId} {z : Value} (hz : (P.info? t).map (·.zero) = some (some z)) : (execOp (ev ρ) ⟨d, .alloc t, ty, ps, af, g⟩).run P w = .ok (.value (.pointer (some ⟨w.heap.size, 0, none⟩))) (w.alloc (.cells z.cells t)) := by
  cases hq : P.info? t with
  | none => simp [hq] at hz
  | some i =>
    have hs : i.zero = some z := by simpa [hq] using hz
    simp [execOp, Instr.alloc, zeroValue, typeInfo, hq, hs, newVar, newRow]
/-- Field f of a struct of type T lies at offset k. -/
def FOff (P : Program) (T f k : Nat) : Prop := ∃ fs x, P.underlying T = some (.struct fs) ∧ fs[f]? = some x ∧ x.offset = k ∧ ∃ s, (P.info? x.type).map (·.size) = some (s + 1)
theorem r_field {x : Operand} {T f k b o : Nat} (h : ev ρ x = .pointer (some ⟨b, o, none⟩)) (hf : FOff P T f k) : (execOp (ev ρ) ⟨d, .fieldAddr T x f, ty, ps, af, g⟩).run P w = .ok (.value (.pointer (some ⟨b, o + k, none⟩))) w := by
  obtain ⟨fs, y, hu, hy, rfl, s, hs⟩ := hf
  cases hq : P.info? y.type with
  | none => simp [hq] at hs
  | some i =>
    have hs' : i.size = s + 1 := by simpa [hq] using hs
    simp [execOp, h, Instr.fieldAt, run_underlying hu, hy, Instr.sureAddr, fieldPlace, sizeOf, typeInfo, hq, hs', addr_add]
theorem r_indexS {x ix : Operand} {t e s b o len cap : Nat} {k : IntKind} {i : Int} (h : ev ρ x = .slice (some ⟨b, o, none⟩) len cap) (hi : ev ρ ix = .int k i) (hu : P.underlying t = some (.slice e)) (hs : (P.info? e).map (·.size) = some s)
    (h0 : 0 ≤ i) (h1 : i < len) : (execOp (ev ρ) ⟨d, .indexAddr t x ix, ty, ps, af, g⟩).run P w = .ok (.value (.pointer (some ⟨b, o + i.toNat * s, none⟩))) w := by
  cases hq : P.info? e with
  | none => simp [hq] at hs
  | some q =>
    have hs' : q.size = s := by simpa [hq] using hs
    simp [execOp, h, hi, Instr.indexAt, asIntOf, run_underlying hu, sizeOf, typeInfo, hq, hs', addr_add, h0, h1]
theorem r_indexA {x ix : Operand} {t e s b o len : Nat} {k : IntKind} {i : Int} (h : ev ρ x = .pointer (some ⟨b, o, none⟩)) (hi : ev ρ ix = .int k i) (hu : P.underlying t = some (.array len e)) (hs : (P.info? e).map (·.size) = some s)
    (h0 : 0 ≤ i) (h1 : i < len) : (execOp (ev ρ) ⟨d, .indexAddr t x ix, ty, ps, af, g⟩).run P w = .ok (.value (.pointer (some ⟨b, o + i.toNat * s, none⟩))) w := by
  cases hq : P.info? e with
  | none => simp [hq] at hs
  | some q =>
    have hs' : q.size = s := by simpa [hq] using hs
    simp [execOp, h, hi, Instr.indexAt, asIntOf, run_underlying hu, sizeOf, typeInfo, hq, hs', addr_add, h0, h1, Instr.sureAddr]
theorem r_index {x ix : Operand} {t : Nat} {k : IntKind} {i : Int} {s : ByteArray} {c : UInt8} (h : ev ρ x = .string s) (hi : ev ρ ix = .int k i) (hu : P.underlying t = some .string) (h0 : 0 ≤ i) (hc : s[i.toNat]? = some c) :
    (execOp (ev ρ) ⟨d, .index t x ix, ty, ps, af, g⟩).run P w = .ok (.value (.int .u8 c.toNat)) w := by
  simp [execOp, h, hi, Instr.index, asIntOf, run_underlying hu, h0, hc]

/-! ### Numbers -/
variable {x y : Operand} {t yt : TypeId} {k : IntKind} {a b : Int}
theorem r_lss (hx : ev ρ x = .int k a) (hy : ev ρ y = .int k b) : (execOp (ev ρ) ⟨d, .binOp .lss t x y yt, ty, ps, af, g⟩).run P w = .ok (.value (.bool (decide (a < b)))) w := by
  simp [execOp, hx, hy, eqGuard, binOp, Op.intCmp]
theorem r_leq (hx : ev ρ x = .int k a) (hy : ev ρ y = .int k b) : (execOp (ev ρ) ⟨d, .binOp .leq t x y yt, ty, ps, af, g⟩).run P w = .ok (.value (.bool (decide (a ≤ b)))) w := by
  simp [execOp, hx, hy, eqGuard, binOp, Op.intCmp]
theorem r_gtr (hx : ev ρ x = .int k a) (hy : ev ρ y = .int k b) : (execOp (ev ρ) ⟨d, .binOp .gtr t x y yt, ty, ps, af, g⟩).run P w = .ok (.value (.bool (decide (b < a)))) w := by
  simp [execOp, hx, hy, eqGuard, binOp, Op.intCmp]
theorem r_geq (hx : ev ρ x = .int k a) (hy : ev ρ y = .int k b) : (execOp (ev ρ) ⟨d, .binOp .geq t x y yt, ty, ps, af, g⟩).run P w = .ok (.value (.bool (decide (b ≤ a)))) w := by
  simp [execOp, hx, hy, eqGuard, binOp, Op.intCmp]
theorem r_eql (hx : ev ρ x = .int k a) (hy : ev ρ y = .int k b) : (execOp (ev ρ) ⟨d, .binOp .eql t x y yt, ty, ps, af, g⟩).run P w = .ok (.value (.bool (decide (a = b)))) w := by
  simp only [execOp, hx, hy, eqGuard, binOp, Op.intCmp]
  simp
  rfl
theorem r_neq (hx : ev ρ x = .int k a) (hy : ev ρ y = .int k b) : (execOp (ev ρ) ⟨d, .binOp .neq t x y yt, ty, ps, af, g⟩).run P w = .ok (.value (.bool (decide (a ≠ b)))) w := by
  simp only [execOp, hx, hy, eqGuard, binOp, Op.intCmp]
  simp [bne]
  rfl
theorem r_add {c : Int} (hx : ev ρ x = .int k a) (hy : ev ρ y = .int k b) (hc : k.wrap (a + b) = c) : (execOp (ev ρ) ⟨d, .binOp .add t x y yt, ty, ps, af, g⟩).run P w = .ok (.value (.int k c)) w := by
  subst hc; simp [execOp, hx, hy, eqGuard, binOp, Op.intArith]
theorem r_sub {c : Int} (hx : ev ρ x = .int k a) (hy : ev ρ y = .int k b) (hc : k.wrap (a - b) = c) : (execOp (ev ρ) ⟨d, .binOp .sub t x y yt, ty, ps, af, g⟩).run P w = .ok (.value (.int k c)) w := by
  subst hc; simp [execOp, hx, hy, eqGuard, binOp, Op.intArith]
theorem wrap_i64 {c : Int} (h0 : -9223372036854775808 ≤ c) (h1 : c ≤ 9223372036854775807) : IntKind.i64.wrap c = c := by
  simp [IntKind.wrap, IntKind.bits, IntKind.signed]; omega
theorem r_eqlB {a b : Bool} (hu : P.underlying t = some .bool) (hx : ev ρ x = .bool a) (hy : ev ρ y = .bool b) : (execOp (ev ρ) ⟨d, .binOp .eql t x y yt, ty, ps, af, g⟩).run P w = .ok (.value (.bool (a == b))) w := by
  simp [execOp, hx, hy, eqGuard, run_eql_bool w t a b hu]
theorem r_neqB {a b : Bool} (hu : P.underlying t = some .bool) (hx : ev ρ x = .bool a) (hy : ev ρ y = .bool b) : (execOp (ev ρ) ⟨d, .binOp .neq t x y yt, ty, ps, af, g⟩).run P w = .ok (.value (.bool (a != b))) w := by
  simp [execOp, hx, hy, eqGuard, run_neq_bool w t a b hu, bne]
theorem r_eqlS {a b : ByteArray} (hx : ev ρ x = .string a) (hy : ev ρ y = .string b) : (execOp (ev ρ) ⟨d, .binOp .eql t x y yt, ty, ps, af, g⟩).run P w = .ok (.value (.bool (decide (a = b)))) w := by
  have e : (a.toList == b.toList) = decide (a = b) := by
    rw [Bool.eq_iff_iff]; simp [ByteArray.toList_eq, ByteArray.ext_iff, Array.ext']
  simp [execOp, hx, hy, eqGuard, binOp_string_eql, e]
theorem r_neqS {a b : ByteArray} (hx : ev ρ x = .string a) (hy : ev ρ y = .string b) : (execOp (ev ρ) ⟨d, .binOp .neq t x y yt, ty, ps, af, g⟩).run P w = .ok (.value (.bool (decide (a ≠ b)))) w := by
  have e : (!(a.toList == b.toList)) = decide (a ≠ b) := by
    rw [Bool.eq_iff_iff]; simp [ByteArray.toList_eq, ByteArray.ext_iff]
  simp only [execOp, hx, hy, eqGuard, binOp_string_neq, e]; simp
/-- '==' on two pointers, one of them nil. -/
theorem r_eqlN {p : Option Addr} {e : TypeId} (hu : P.underlying t = some (.pointer e)) (hx : ev ρ x = .pointer p) (hy : ev ρ y = .pointer none) : (execOp (ev ρ) ⟨d, .binOp .eql t x y yt, ty, ps, af, g⟩).run P w = .ok (.value (.bool p.isNone)) w := by
  have he : P.pointee t = e := by simp [Program.pointee, hu]
  simp [execOp, hx, hy, eqGuard, run_eql_pointer_nil w t p (by rw [he]; exact hu)]
theorem r_neqN {p : Option Addr} {e : TypeId} (hu : P.underlying t = some (.pointer e)) (hx : ev ρ x = .pointer p) (hy : ev ρ y = .pointer none) : (execOp (ev ρ) ⟨d, .binOp .neq t x y yt, ty, ps, af, g⟩).run P w = .ok (.value (.bool p.isSome)) w := by
  have he : P.pointee t = e := by simp [Program.pointee, hu]
  cases p <;> simp [execOp, hx, hy, eqGuard, run_neq_pointer_nil w t _ (by rw [he]; exact hu)]

/-! ### Calls -/
theorem r_call {f : FuncId} {fn : Func} {c : Code} {xs : Array Operand} {ts : Array TypeId} {args : Array Value} (hf : P.funcs[f]? = some fn) (hb : fn.body = some c) (hn : (fn.name == "runtime.NumGoroutine") = false) (h : xs.map (ev ρ) = args) :
    (execOp (ev ρ) ⟨d, .call ⟨.value (.func f), xs, ts⟩, ty, ps, af, g⟩).run P w = .ok (.enter f args) w := by
  subst h
  have hn' : ¬ fn.name = "runtime.NumGoroutine" := by simpa using hn
  simp [execOp, resolve, Deferred.ofValue, ev, invoke, callFunc, hf, hb, hn']
theorem r_len {x : Operand} {ts : TypeId} {e : TypeId} {p : Option Addr} {len cap : Nat} (hu : P.underlying ts = some (.slice e)) (h : ev ρ x = .slice p len cap) :
    (execOp (ev ρ) ⟨d, .call ⟨.builtin .len, #[x], #[ts]⟩, ty, ps, af, g⟩).run P w = .ok (.value (.int .i64 len)) w := by
  simp [execOp, resolve, invoke, builtin, Builtin.len_, h, run_underlying hu, goInt]
theorem r_lenS {x : Operand} {ts : TypeId} {s : ByteArray} (hu : P.underlying ts = some .string) (h : ev ρ x = .string s) :
    (execOp (ev ρ) ⟨d, .call ⟨.builtin .len, #[x], #[ts]⟩, ty, ps, af, g⟩).run P w = .ok (.value (.int .i64 s.size)) w := by
  simp [execOp, resolve, invoke, builtin, Builtin.len_, h, run_underlying hu, goInt]
/-- The whole of an array behind a pointer, as a slice; its head. -/
theorem r_sliceA {x : Operand} {t e b o len : Nat} (h : ev ρ x = .pointer (some ⟨b, o, none⟩)) (hu : P.underlying t = some (.array len e)) (hs : ∃ s, (P.info? e).map (·.size) = some s) :
    (execOp (ev ρ) ⟨d, .slice t x none none none, ty, ps, af, g⟩).run P w = .ok (.value (.slice (some ⟨b, o, none⟩) len len)) w := by
  obtain ⟨s, hs⟩ := hs
  cases hq : P.info? e with
  | none => simp [hq] at hs
  | some q => simp [execOp, Instr.sliceAt, Instr.sureAddr, h, run_underlying hu, Instr.sliceBounds, sizeOf, typeInfo, hq, addr_add]
theorem r_sliceAh {x y : Operand} {t e b o len m : Nat} {k : IntKind} (h : ev ρ x = .pointer (some ⟨b, o, none⟩)) (hy : ev ρ y = .int k m) (hm : m ≤ len) (hu : P.underlying t = some (.array len e)) (hs : ∃ s, (P.info? e).map (·.size) = some s) :
    (execOp (ev ρ) ⟨d, .slice t x none (some y) none, ty, ps, af, g⟩).run P w = .ok (.value (.slice (some ⟨b, o, none⟩) m len)) w := by
  obtain ⟨s, hs⟩ := hs
  cases hq : P.info? e with
  | none => simp [hq] at hs
  | some q => simp [execOp, Instr.sliceAt, Instr.sureAddr, h, hy, run_underlying hu, Instr.sliceBounds, run_sliceBound, sizeOf, typeInfo, hq, addr_add, hm]
end Go.E
