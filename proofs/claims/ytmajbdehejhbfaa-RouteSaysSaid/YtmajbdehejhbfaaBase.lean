/-
  Words that all texts of this seat use: keys as lists of sixteen bytes, what is read of them in memory, worlds that are as they were below a block.
-/
import Derived.Test.YtmajbdehejhbfaaProg
import Derived.Test.YtmajbdehejhbfaaE
import Derived.Test.YtmajbdehejhbfaaOps
import Derived.Test.YtmajbdehejhbfaaTy
import Derived.WalkKit
import Derived.WalkSpells
import Derived.WalkLawsBesides
import Derived.Deep.QuietTactic
import Derived.Deep.RegionHeld3
import Derived.Deep.MidRow
import Derived.Deep.LoopGhost
import Derived.BigQuiet
import Derived.KernelRfl
import Derived.Lib.Bytealg
import Derived.Lib.BytesEntry
import Derived.Laws.Externs
import Derived.Stop.BytesEq
namespace Go.Proofs.Ytmajbdehejhbfaa
open Go Go.RowKit

/-- A key: sixteen bytes. -/
abbrev Key := {l : List UInt8 // l.length = 16}
def zeroK : Key := ⟨List.replicate 16 0, rfl⟩
instance : Inhabited Key := ⟨zeroK⟩
/-- What the kit calls the range of a slice of the call's own. -/
abbrev Ext := E.Ext
def kl (k : Key) : List Value := k.1.map fun b => Value.int .u8 b.toNat
def kv (k : Key) : Value := .agg (kl k).toArray
@[simp] theorem kl_len (k : Key) : (kl k).length = 16 := by simp [kl, k.2]
theorem kl_one (k : Key) : ∀ v ∈ kl k, v.oneCell' = true := by
  intro v hv; simp only [kl, List.mem_map] at hv; obtain ⟨b, _, rfl⟩ := hv; rfl
theorem kl_get (k : Key) (i : Nat) (h : i < 16) : (kl k)[i]? = some (.int .u8 (k.1.getD i 0).toNat) := by
  have h' : i < k.1.length := by rw [k.2]; exact h
  simp [kl, h', List.getD]
theorem kl_inj {a b : Key} (h : kl a = kl b) : a = b := by
  apply Subtype.ext
  have : ∀ l m : List UInt8, l.map (fun b => Value.int .u8 b.toNat) = m.map (fun b => Value.int .u8 b.toNat) → l = m := by
    intro l
    induction l with
    | nil => intro m h; cases m <;> simp_all
    | cons x l ih =>
      intro m h
      cases m with
      | nil => simp at h
      | cons y m =>
        simp only [List.map_cons, List.cons.injEq, Value.int.injEq, true_and] at h
        rw [ih m h.2, show x = y from UInt8.toNat_inj.mp (by omega)]
  exact this _ _ h

/-- The walk's rule of a world that is as it was below B. -/
theorem bcell {B : Nat} {W w1 : World} (hb : Below B W w1) : (∀ b o, b < B → w1.cell? ⟨b, o, none⟩ = W.cell? ⟨b, o, none⟩) ∧ (∀ b o, b < B → w1.frozen? ⟨b, o, none⟩ = W.frozen? ⟨b, o, none⟩) :=
  ⟨fun b o h => hb.cell (p := ⟨b, o, none⟩) h, fun b o h => hb.frozen (p := ⟨b, o, none⟩) h⟩
theorem range_below {B : Nat} {W w1 : World} {b o : Nat} {cs : List Value} (hb : Below B W w1) (h : b < B) (hr : W.rangeAt b o cs) : w1.rangeAt b o cs :=
  fun j v hj => (hb.cell (p := ⟨b, o + j, none⟩) h).trans (hr j v hj)
theorem sb_step {B : Nat} {W w1 w2 : World} (h : Below B W w1) (hB : B ≤ W.heap.size) (hb : Below w1.heap.size w1 w2) : Below B W w2 := h.trans (hb.mono (Nat.le_trans hB h.size))
theorem range_alloc_at (w : World) (cs : List Value) (T : TypeId) : ∀ n, n = w.heap.size → (w.alloc (.cells cs.toArray T)).rangeAt n 0 cs := by
  rintro n rfl j v hj
  rw [Nat.zero_add, World.cell?_alloc_at _ _ _ _ rfl]; simpa using hj
theorem range_alloc {w : World} {b o : Nat} {cs : List Value} (h : w.rangeAt b o cs) (hb : b < w.heap.size) (x : Obj) : (w.alloc x).rangeAt b o cs := by
  intro j v hj
  rw [World.cell?_alloc_past _ _ _ hb]; exact h j v hj
theorem range_cell {w : World} {b o : Nat} {cs : List Value} (h : w.rangeAt b o cs) (j : Nat) (v : Value) (hj : cs[j]? = some v) : w.cell? ⟨b, o + j, none⟩ = some v := h j v hj

/-- Bytes out of cells. -/
theorem run_loadBytesU (P : Program) (w : World) : ∀ (l : List UInt8) (a : Addr) (acc : ByteArray), (∀ j x, l[j]? = some x → w.cell? (a.add j) = some (.int .u8 x.toNat)) →
    (Extern.Bytes.loadBytes a l.length acc).run P w = .ok ⟨acc.data ++ l.toArray⟩ w
  | [], a, acc, _ => by simp [Extern.Bytes.loadBytes]
  | x :: l, a, acc, h => by
    have h0 : w.cell? a = some (.int .u8 x.toNat) := by
      have := h 0 x rfl
      simpa [Addr.add] using this
    have ih := run_loadBytesU P w l (a.add 1) (acc.push x) (fun j y hy => by
      have := h (j + 1) y (by simpa using hy)
      have e : (a.add 1).add j = a.add (j + 1) := by
        unfold Addr.add
        by_cases hj : j = 0
        · subst hj; simp
        · simp [hj]; omega
      rw [e]; exact this)
    simp only [List.length_cons, Extern.Bytes.loadBytes, Sem.run_bind, run_load, h0, Result.andThen]
    have hx : (x.toNat : Int).toNat.toUInt8 = x := by simp
    rw [hx, ih]
    congr 1
    apply ByteArray.ext
    simp [ByteArray.push]
theorem run_bytesOf_range (P : Program) (w : World) (b o c : Nat) (l : List UInt8) (h : w.rangeAt b o (l.map fun b => Value.int .u8 b.toNat)) :
    (Extern.Bytes.bytesOf (.slice (some ⟨b, o, none⟩) l.length c)).run P w = .ok ⟨l.toArray⟩ w := by
  have := run_loadBytesU P w l ⟨b, o, none⟩ .empty (fun j x hj => by rw [Addr.add_mid]; exact h j _ (by simp [hj]))
  simpa [Extern.Bytes.bytesOf] using this
theorem run_compare_keys (P : Program) (w : World) (b o c b' o' c' : Nat) (k k' : Key) (h : w.rangeAt b o (kl k)) (h' : w.rangeAt b' o' (kl k')) :
    (Extern.BytealgCompare.compare #[.slice (some ⟨b, o, none⟩) 16 c, .slice (some ⟨b', o', none⟩) 16 c']).run P w = .ok (.int .i64 (Lib.compareBytes k.1 k'.1)) w := by
  have e := run_bytesOf_range P w b o c k.1 h
  have e' := run_bytesOf_range P w b' o' c' k'.1 h'
  rw [k.2] at e; rw [k'.2] at e'
  change Sem.run P (do pure (goInt (Extern.BytealgCompare.cmp (← Extern.Bytes.bytesOf (.slice (some ⟨b, o, none⟩) 16 c)) (← Extern.Bytes.bytesOf (.slice (some ⟨b', o', none⟩) 16 c'))))) w = _
  simp only [Sem.run_bind, e, e', Sem.run_pure, Result.andThen]
  rw [Lib.cmp_eq]
  rfl
theorem range_take {w : World} {b o : Nat} {k : Key} (h : w.rangeAt b o (kl k)) (n : Nat) : w.rangeAt b o ((k.1.take n).map fun b => Value.int .u8 b.toNat) := by
  intro j v hj
  refine h j v ?_
  simp only [kl, List.getElem?_map] at hj ⊢
  rw [List.getElem?_take] at hj
  split at hj
  · exact hj
  · simp at hj
/-! ### '==' on keys -/
theorem eqGuard_key : Try.prog.eqGuardType Try.prog.depth 24 = false := by kernel_rfl
theorem run_eqlK (w : World) (a b : Key) : (binOp .eql 24 (.agg (kl a).toArray) (.agg (kl b).toArray)).run Try.prog w = .ok (.bool (decide (a = b))) w := by
  have h := run_eql_bytes (P := Try.prog) w 24 5 16 Try.underlying24 Try.underlying5 (fun w => E.run_size ts5 w) a.1 b.1 a.2 b.2
  have e : (a.1 == b.1) = decide (a = b) := by rw [Bool.eq_iff_iff]; simp [Subtype.ext_iff]
  rw [e] at h
  exact h
theorem r_eqlK {ρ : E.Env} {w : World} {d : Option Tmp} {ty yt : TypeId} {ps : String} {af : Array Edge} {g : Option (Nat × Bool)} {x y : Operand} {a b : Key} (hx : E.ev ρ x = .agg (kl a).toArray) (hy : E.ev ρ y = .agg (kl b).toArray) :
    (execOp (E.ev ρ) ⟨d, .binOp .eql 24 x y yt, ty, ps, af, g⟩).run Try.prog w = .ok (.value (.bool (decide (a = b)))) w := by
  simp only [execOp, hx, hy, Sem.run_bind, run_eqGuard_agg w .eql 24 x y _ _ eqGuard_key, Result.andThen_ok, run_eqlK w a b, Sem.run_pure]
theorem run_neqK (w : World) (a b : Key) : (binOp .neq 24 (.agg (kl a).toArray) (.agg (kl b).toArray)).run Try.prog w = .ok (.bool (decide (a ≠ b))) w := by
  have h := run_equalIn_bytes (P := Try.prog) w 9998 24 5 16 Try.underlying24 Try.underlying5 (fun w => E.run_size ts5 w) a.1 b.1 a.2 b.2
  have e : (!(a.1 == b.1)) = decide (a ≠ b) := by rw [Bool.eq_iff_iff]; simp [Subtype.ext_iff]
  rw [run_neq_struct]
  have h' : (Op.equalIn 10000 24 (.agg (kl a).toArray) (.agg (kl b).toArray)).run Try.prog w = .ok (a.1 == b.1) w := h
  rw [h', ← e]
  rfl
theorem r_neqK {ρ : E.Env} {w : World} {d : Option Tmp} {ty yt : TypeId} {ps : String} {af : Array Edge} {g : Option (Nat × Bool)} {x y : Operand} {a b : Key} (hx : E.ev ρ x = .agg (kl a).toArray) (hy : E.ev ρ y = .agg (kl b).toArray) :
    (execOp (E.ev ρ) ⟨d, .binOp .neq 24 x y yt, ty, ps, af, g⟩).run Try.prog w = .ok (.value (.bool (decide (a ≠ b)))) w := by
  simp only [execOp, hx, hy, Sem.run_bind, run_eqGuard_agg w .neq 24 x y _ _ eqGuard_key, Result.andThen_ok, run_neqK w a b, Sem.run_pure]
end Go.Proofs.Ytmajbdehejhbfaa
