/-
  Elements of slices and their cells: numbers, slices, writes; '==' on writes.
-/
import Derived.Test.YtmajbdehejhbfaaBase
import Derived.Test.YtmajbdehejhbfaaOwn
import Derived.Test.YtmajbdehejhbfaaOwn2
namespace Go.Proofs.Ytmajbdehejhbfaa
open Go Go.RowKit

def il (x : Int) : List Value := [.int .i64 x]
theorem il_len (x : Int) : (il x).length = 1 := rfl
theorem il_one (x : Int) : ∀ v ∈ il x, v.oneCell' = true := by simp [il, Value.oneCell']
abbrev svl := E.svl
theorem svl_len (v : E.Sl) : (svl v).length = 1 := rfl
theorem svl_one (v : E.Sl) : ∀ c ∈ svl v, c.oneCell' = true := E.svl_one v
structure Write where
  key : Key
  val : ByteArray
  gone : Bool
  deriving DecidableEq
def wl (x : Write) : List Value := kl x.key ++ [.string x.val, .bool x.gone]
def zeroW : Write := ⟨zeroK, ⟨#[]⟩, false⟩
@[simp] theorem wl_len (x : Write) : (wl x).length = 18 := by simp [wl]
theorem wl_one (x : Write) : ∀ v ∈ wl x, v.oneCell' = true := by
  intro v hv
  rcases List.mem_append.1 hv with h | h
  · exact kl_one _ v h
  · simp at h; rcases h with rfl | rfl <;> rfl
theorem wl_key {w : World} {b o : Nat} {x : Write} (h : w.rangeAt b o (wl x)) : w.rangeAt b o (kl x.key) := fun j v hj => h j v (by
  rw [wl, List.getElem?_append_left (List.getElem?_eq_some_iff.1 hj).1]; exact hj)
theorem wl_val {x : Write} : (wl x)[16]? = some (.string x.val) := by
  rw [wl, List.getElem?_append_right (by simp)]; simp
theorem wl_gone {x : Write} : (wl x)[17]? = some (.bool x.gone) := by
  rw [wl, List.getElem?_append_right (by simp)]; simp

section
variable {P : Program} {w : World} {d : Nat} {xs ys : Array Value} {f : Field} {fs : List Field} {a b : Value} {r s : Bool}
theorem eqf_cons (hn : (f.name == "_") = false) (ha : (part f.type xs f.offset).run P w = .ok a w) (hb : (part f.type ys f.offset).run P w = .ok b w) (he : (Op.equalIn d f.type a b).run P w = .ok r w) (hr : (Op.eqFields d xs ys fs).run P w = .ok s w) :
    (Op.eqFields d xs ys (f :: fs)).run P w = .ok (r && s) w := by
  have hn' : f.name ≠ "_" := by simpa using hn
  rw [Op.eqFields, if_pos hn']
  cases r <;> simp [ha, hb, he, hr]
theorem eqf_nil : (Op.eqFields d xs ys []).run P w = .ok true w := by simp [Op.eqFields]
theorem eqA_of {t : TypeId} {fs : Array Field} (hu : P.underlying t = some (.struct fs)) (hp : P.stoodInHeld t = false) (h : (Op.eqFields d xs ys fs.toList).run P w = .ok r w) : (Op.equalIn (d + 1) t (.agg xs) (.agg ys)).run P w = .ok r w := by
  have hf : P.fieldsOf t = fs := by simp [Program.fieldsOf, hu]
  rw [run_equalIn_struct (P := P) w d t xs ys (by rw [hf]; exact hu) hp, hf]
  exact h
theorem part1 {t : TypeId} {D : TypeDesc} {v : Value} {off : Nat} (hu : P.underlying t = some D) (hd : D.isRow = false) (hv : xs[off]? = some v) : (part t xs off).run P w = .ok v w := by
  have hagg : (isAgg t).run P w = .ok false w := by
    unfold isAgg
    rw [Sem.run_bind, run_underlying hu w]
    cases D <;> simp_all [TypeDesc.isRow]
  simp [part, Sem.run_bind, hagg, hv]
theorem partk {t : TypeId} {D : TypeDesc} {n off : Nat} {cs : List Value} (hu : P.underlying t = some D) (hd : D.isRow = true) (hs : (P.info? t).map (·.size) = some n) (hv : xs.extract off (off + n) = cs.toArray) : (part t xs off).run P w = .ok (.agg cs.toArray) w := by
  have hagg : (isAgg t).run P w = .ok true w := by
    unfold isAgg
    rw [Sem.run_bind, run_underlying hu w]
    cases D <;> simp_all [TypeDesc.isRow]
  simp [part, Sem.run_bind, hagg, E.run_size hs, hv]
end
theorem eqIn_key (w : World) (d : Nat) (a b : Key) : (Op.equalIn (d + 2) 24 (.agg (kl a).toArray) (.agg (kl b).toArray)).run Try.prog w = .ok (decide (a = b)) w := by
  have h := run_equalIn_bytes (P := Try.prog) w d 24 5 16 Try.underlying24 Try.underlying5 (fun w => E.run_size ts5 w) a.1 b.1 a.2 b.2
  have e : (a.1 == b.1) = decide (a = b) := by rw [Bool.eq_iff_iff]; simp [Subtype.ext_iff]
  rw [e] at h
  exact h
theorem str_eq (a b : ByteArray) : (a.toList == b.toList) = decide (a = b) := by
  rw [Bool.eq_iff_iff]; simp [ByteArray.toList_eq, ByteArray.ext_iff]
theorem wl_cut (x : Write) : (wl x).toArray.extract 0 16 = (kl x.key).toArray := by
  rw [List.extract_toArray]; simp [wl, List.extract_eq_take_drop]
theorem eqIn_wl (w : World) (a b : Write) : (Op.equalIn 10000 64 (.agg (wl a).toArray) (.agg (wl b).toArray)).run Try.prog w = .ok (decide (a = b)) w := by
  refine eqA_of (d := 9999) Try.underlying64 (by kernel_rfl) ?_
  have e : decide (a = b) = (decide (a.key = b.key) && (decide (a.val = b.val) && (decide (a.gone = b.gone) && true))) := by
    obtain ⟨k, v, g⟩ := a; obtain ⟨k', v', g'⟩ := b
    rw [Bool.eq_iff_iff]; simp
  rw [e]
  refine eqf_cons rfl (partk Try.underlying24 rfl ts24 (wl_cut a)) (partk Try.underlying24 rfl ts24 (wl_cut b)) (eqIn_key w 9997 _ _) ?_
  refine eqf_cons rfl (part1 (v := .string a.val) Try.underlying9 rfl (by simpa using wl_val)) (part1 (v := .string b.val) Try.underlying9 rfl (by simpa using wl_val)) ((run_equalIn_string w 9998 _ _ _ Try.underlying9).trans (by rw [str_eq])) ?_
  refine eqf_cons rfl (part1 (v := .bool a.gone) Try.underlying4 rfl (by simpa using wl_gone)) (part1 (v := .bool b.gone) Try.underlying4 rfl (by simpa using wl_gone)) ((run_equalIn_bool' w 9998 _ _ _ Try.underlying4).trans (by rw [show (a.gone == b.gone) = decide (a.gone = b.gone) by cases a.gone <;> cases b.gone <;> rfl])) ?_
  exact eqf_nil
theorem eqGuard_wl : Try.prog.eqGuardType Try.prog.depth 64 = false := by kernel_rfl
section
variable {ρ : E.Env} {w : World} {d : Option Tmp} {ty yt : TypeId} {ps : String} {af : Array Edge} {g : Option (Nat × Bool)} {x y : Operand} {a b : Write}
theorem r_eql_wl (hx : E.ev ρ x = .agg (wl a).toArray) (hy : E.ev ρ y = .agg (wl b).toArray) :
    (execOp (E.ev ρ) ⟨d, .binOp .eql 64 x y yt, ty, ps, af, g⟩).run Try.prog w = .ok (.value (.bool (decide (a = b)))) w := by
  simp only [execOp, hx, hy, Sem.run_bind, run_eqGuard_agg w .eql 64 x y _ _ eqGuard_wl, Result.andThen_ok, run_eql_struct, eqIn_wl w a b, Sem.run_pure]
theorem r_neq_wl (hx : E.ev ρ x = .agg (wl a).toArray) (hy : E.ev ρ y = .agg (wl b).toArray) :
    (execOp (E.ev ρ) ⟨d, .binOp .neq 64 x y yt, ty, ps, af, g⟩).run Try.prog w = .ok (.value (.bool (decide (a ≠ b)))) w := by
  have e : (!decide (a = b)) = decide (a ≠ b) := by simp
  simp only [execOp, hx, hy, Sem.run_bind, run_eqGuard_agg w .neq 64 x y _ _ eqGuard_wl, Result.andThen_ok, run_neq_struct, eqIn_wl w a b, Sem.run_pure, e]
end
end Go.Proofs.Ytmajbdehejhbfaa
