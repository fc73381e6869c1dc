/-
  What a law is handed, opened: keys, writes, slices of such.
-/
import Derived.Test.YtmajbdehejhbfaaEls
import Derived.ChangeArms
import Derived.OpenShut
import Derived.WideShapes
namespace Go.Proofs.Ytmajbdehejhbfaa
open Go Go.RowKit Go.ChangeShapes Go.WideShapes

theorem exists_list {α : Type} (Q : Nat → α → Prop) : ∀ n, (∀ i, i < n → ∃ x, Q i x) → ∃ l : List α, l.length = n ∧ ∀ i x, l[i]? = some x → Q i x
  | 0, _ => ⟨[], rfl, fun i x h => by simp at h⟩
  | n + 1, h => by
    obtain ⟨l, hl, hq⟩ := exists_list Q n fun i hi => h i (by omega)
    obtain ⟨x, hx⟩ := h n (by omega)
    refine ⟨l ++ [x], by simp [hl], fun i y hy => ?_⟩
    by_cases hi : i < l.length
    · rw [List.getElem?_append_left hi] at hy; exact hq i y hy
    · rw [List.getElem?_append_right (by omega)] at hy
      have h0 : i - l.length = 0 := by
        have := (List.getElem?_eq_some_iff.1 hy).1
        simp at this; omega
      rw [h0] at hy
      simp at hy
      subst hy
      rw [show i = n by omega]; exact hx
theorem mapM_some {α β : Type} {f : α → Option β} : ∀ {l : List α} {ys : List β}, l.mapM f = some ys → ys.length = l.length ∧ ∀ (i : Nat) (x : α), l[i]? = some x → ∃ y, f x = some y ∧ ys[i]? = some y
  | [], ys, h => by simp at h; subst h; simp
  | a :: l, ys, h => by
    simp only [List.mapM_cons, Option.bind_eq_bind, Option.bind_eq_some_iff, Option.pure_def, Option.some.injEq] at h
    obtain ⟨y, hy, ys', hys, rfl⟩ := h
    obtain ⟨h1, h2⟩ := mapM_some hys
    refine ⟨by simp [h1], fun i x hi => ?_⟩
    cases i with
    | zero => simp at hi; subst hi; exact ⟨y, hy, rfl⟩
    | succ i => simpa using h2 i x (by simpa using hi)
theorem cells_at {w : World} {base n : Nat} {a : Addr} {cs : List Value} (h : w.cells? base a n = some cs) : cs.length = n ∧ ∀ (j : Nat) (u : Value), cs[j]? = some u → w.cell? (a.add j) = some u := by
  unfold World.cells? at h
  split at h
  · obtain ⟨h1, h2⟩ := mapM_some h
    refine ⟨by simpa using h1, fun j u hj => ?_⟩
    have hjn : j < n := by rw [← (show cs.length = n by simpa using h1)]; exact (List.getElem?_eq_some_iff.1 hj).1
    obtain ⟨y, hy, hy'⟩ := h2 j j (by rw [List.getElem?_range hjn])
    rw [hj] at hy'; cases hy'; exact hy
  · cases h
/-- Whatever reads as a value of type t is encoded so. -/
def Opens {α : Type} (P : Program) (t : TypeId) (enc : α → List Value) : Prop :=
  ∀ (H : Type) (e : TypeId × Value → H) (w : World) (base : Nat) (sp : Nat → Bool) (held : Bool) (fuel : Nat) (cs : List Value) (y : DataW H × List MemPlace), DataW.trod e P w base sp held fuel t cs = some y → ∃ x, cs = enc x
set_option maxRecDepth 100000 in
theorem opens_key : Opens Try.prog 24 kl := by
  intro H e w base sp held fuel cs y h
  obtain ⟨xs, m, _, _, hl, hx, hat⟩ := DataW.trod_array Try.underlying24 h
  have hc : Try.prog.cellsOf 5 = 1 := by kernel_rfl
  have hc2 : Try.prog.cellsOf 24 = 16 := by kernel_rfl
  rw [hc2] at hl
  have key : ∀ i, i < 16 → ∃ b : UInt8, cs[i]? = some (.int .u8 b.toNat) := by
    intro i hi
    have h1 := hat i hi
    rw [hc, Nat.mul_one, List.getElem?_eq_getElem (by omega)] at h1
    obtain ⟨n, hn, _, hw⟩ := DataW.trod_int Try.underlying5 h1
    have hr : 0 ≤ n ∧ n ≤ 255 := by simp [Lit.wf, IntKind.has, IntKind.min, IntKind.max, IntKind.signed, IntKind.bits] at hw; exact hw
    refine ⟨UInt8.ofNat n.toNat, ?_⟩
    have e0 : ((cs.drop i).take 1)[0]? = some (.int .u8 n) := by rw [hn]; rfl
    rw [List.getElem?_take_of_lt (by omega), List.getElem?_drop, Nat.add_zero] at e0
    rw [e0]
    have e2 : ((UInt8.ofNat n.toNat).toNat : Int) = n := by
      rw [UInt8.toNat_ofNat']; omega
    rw [e2]
  obtain ⟨l, hll, hq⟩ := exists_list (fun i (b : UInt8) => cs[i]? = some (.int .u8 b.toNat)) 16 key
  refine ⟨⟨l, hll⟩, ?_⟩
  apply List.ext_getElem?
  intro i
  simp only [kl, List.getElem?_map]
  by_cases hi : i < 16
  · rw [hq i _ (List.getElem?_eq_getElem (by omega)), List.getElem?_eq_getElem (by omega)]; rfl
  · rw [List.getElem?_eq_none (by omega), List.getElem?_eq_none (by omega)]; rfl
set_option maxRecDepth 100000 in
theorem opens_write : Opens Try.prog 64 wl := by
  intro H e w base sp held fuel cs y h
  obtain ⟨xs, m, _, _, hl, hx, hat⟩ := DataW.trod_struct Try.underlying64 h
  have hc : Try.prog.cellsOf 64 = 18 := by kernel_rfl
  have hck : Try.prog.cellsOf 24 = 16 := by kernel_rfl
  have hcs : Try.prog.cellsOf 9 = 1 := by kernel_rfl
  have hcb : Try.prog.cellsOf 4 = 1 := by kernel_rfl
  rw [hc] at hl
  have hx3 : xs.length = 3 := hx
  have h0 := hat 0 _ rfl
  have h1 := hat 1 _ rfl
  have h2 := hat 2 _ rfl
  rw [List.getElem?_eq_getElem (by omega)] at h0 h1 h2
  obtain ⟨k, hk⟩ := opens_key _ _ _ _ _ _ _ _ _ h0
  obtain ⟨s, hs, _, _⟩ := DataW.trod_string Try.underlying9 h1
  obtain ⟨b, hb, _⟩ := DataW.trod_bool Try.underlying4 h2
  refine ⟨⟨k, s, b⟩, ?_⟩
  change (cs.drop 0).take (Try.prog.cellsOf 24) = _ at hk
  change (cs.drop 16).take (Try.prog.cellsOf 9) = _ at hs
  change (cs.drop 17).take (Try.prog.cellsOf 4) = _ at hb
  rw [hck, List.drop_zero] at hk
  rw [hcs] at hs
  rw [hcb] at hb
  have e1 : cs = cs.take 16 ++ ((cs.drop 16).take 1 ++ (cs.drop 17).take 1) := by
    rw [List.take_of_length_le (l := cs.drop 17) (by simp; omega), show cs.drop 17 = (cs.drop 16).drop 1 by rw [List.drop_drop], List.take_append_drop, List.take_append_drop]
  rw [e1, hk, hs, hb]
  rfl
theorem opens_int : Opens Try.prog 3 il := by
  intro H e w base sp held fuel cs y h
  obtain ⟨n, hn, _, _⟩ := DataW.trod_int Try.underlying3 h
  exact ⟨n, hn⟩
section
variable {H : Type} {en : TypeId × Value → H} {P : Program} {w : World} {base b0 : Nat} {sp : Nat → Bool} {held : Bool} {r : Reach} {t : TypeId} {v : Value} {d : DataW H} {ps : List MemPlace}
theorem open_sl {α : Type} {e s : Nat} {enc : α → List Value} (ht : P.underlying t = some (.slice e)) (hc : P.cellsOf e = s) (hs : ∀ x, (enc x).length = s) (hpos : 0 < s) (ho : Opens P e enc) (hval : Value.okWide P w r b0 t v) (hd : DataW.Trod en P w base sp held t v d ps) :
    ∃ (u : E.Sl) (l : List α), v = u.val ∧ E.Rd w u s enc l ∧ l.length ≤ maxLen := by
  obtain ⟨p, len, cap, rfl⟩ := okWide_slice ht hval
  obtain ⟨fuel, hf⟩ := hd
  rcases DataW.trod_slice ht hf with ⟨h0, _⟩ | ⟨a, len', cap', elems, rest, m, _, hcs, _, hb, hl, hm, hlen, hel, _, _⟩
  · simp [Value.cells] at h0
    obtain ⟨rfl, rfl, rfl⟩ := h0
    exact ⟨⟨none, 0, 0⟩, [], rfl, E.Rd.nil _ _ _, by simp⟩
  · simp [Value.cells] at hcs
    obtain ⟨rfl, rfl, rfl⟩ := hcs
    have key : ∀ i, i < len → ∃ x : α, ∀ (j : Nat) (u : Value), (enc x)[j]? = some u → w.cell? ((a.add (i * s)).add j) = some u := by
      intro i hi
      have h1 := hel i hi
      rw [hc, List.getElem?_eq_getElem (by omega), Option.bind_eq_some_iff] at h1
      obtain ⟨cs, h2, h3⟩ := h1
      obtain ⟨x, rfl⟩ := ho _ _ _ _ _ _ _ _ _ h3
      exact ⟨x, (cells_at h2).2⟩
    obtain ⟨l, hll, hq⟩ := exists_list _ len key
    refine ⟨⟨some a, len, cap⟩, l, rfl, ⟨hll.symm, fun i x hi => ?_⟩, by omega⟩
    have hl0 : 0 < l.length := by have := (List.getElem?_eq_some_iff.1 hi).1; omega
    obtain ⟨x0, hx0⟩ : ∃ x0, l[0]? = some x0 := ⟨_, List.getElem?_eq_getElem hl0⟩
    have hsp : a.spot = none := by
      have he : ∃ u, (enc x0)[0]? = some u := ⟨_, List.getElem?_eq_getElem (by rw [hs]; exact hpos)⟩
      obtain ⟨u, hu⟩ := he
      have h1 := hq 0 x0 hx0 0 u hu
      simp only [Nat.zero_mul, Addr.add, if_true] at h1
      unfold World.cell? at h1
      split at h1
      · split at h1
        · cases h1
        · rename_i hn; simpa using hn
      · cases h1
    obtain ⟨b, o, spot⟩ := a
    simp only at hsp
    subst hsp
    refine ⟨rfl, fun j u hj => ?_⟩
    have h1 := hq i x hi j u hj
    rw [Addr.add_mid, Addr.add_mid] at h1
    exact h1
set_option maxRecDepth 100000 in
theorem open_key (hval : Value.okWide Try.prog w r b0 24 v) (hd : DataW.Trod en Try.prog w base sp held 24 v d ps) : ∃ k : Key, v = kv k := by
  obtain ⟨fuel, hf⟩ := hd
  simp only [Value.okWide, Try.underlying24] at hval
  obtain ⟨cs, rfl, _, _⟩ := hval
  obtain ⟨k, hk⟩ := opens_key _ _ _ _ _ _ _ _ _ hf
  refine ⟨k, ?_⟩
  simp only [Value.cells] at hk
  rw [kv, ← hk]
set_option maxRecDepth 100000 in
theorem open_write (hval : Value.okWide Try.prog w r b0 64 v) (hd : DataW.Trod en Try.prog w base sp held 64 v d ps) : ∃ x : Write, v = .agg (wl x).toArray := by
  obtain ⟨fuel, hf⟩ := hd
  simp only [Value.okWide, Try.underlying64] at hval
  obtain ⟨cs, rfl, _, _⟩ := hval
  obtain ⟨k, hk⟩ := opens_write _ _ _ _ _ _ _ _ _ hf
  refine ⟨k, ?_⟩
  simp only [Value.cells] at hk
  rw [← hk]
end
end Go.Proofs.Ytmajbdehejhbfaa
