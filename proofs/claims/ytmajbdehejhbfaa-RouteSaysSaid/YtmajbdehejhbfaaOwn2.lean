/-
  A slice of the call's own of slices of the call's own, no two in one block. Nothing of a program stands here.
-/
import Derived.Test.YtmajbdehejhbfaaOwn
namespace Go.E
open Go Go.RowKit
def svl (v : Sl) : List Value := [v.val]
theorem svl_len (v : Sl) : (svl v).length = 1 := rfl
theorem svl_one (v : Sl) : ∀ c ∈ svl v, c.oneCell' = true := by simp [svl, Value.oneCell']
/-- The slices vs lie in o; the j-th holds rows j. -/
structure Own2 {α : Type} (base : Nat) (w : World) (o : Sl) (e1 e s : Nat) (enc : α → List Value) (vs : List Sl) (rows : Nat → List α) : Prop where
  own : Own base w o e1 1 svl vs
  row : ∀ (j : Nat) (v : Sl), vs[j]? = some v → Own base w v e s enc (rows j)
  d1 : ∀ (j : Nat) (v : Sl), vs[j]? = some v → v.val.ownBlock = none ∨ v.val.ownBlock ≠ o.val.ownBlock
  d2 : ∀ (j k : Nat) (v u : Sl), j ≠ k → vs[j]? = some v → vs[k]? = some u → v.val.ownBlock = none ∨ v.val.ownBlock ≠ u.val.ownBlock
variable {α : Type} {base e1 e s : Nat} {enc : α → List Value} {w w' w1 w2 : World} {o v v' : Sl} {vs : List Sl} {rows : Nat → List α}
theorem keptRow {x : Sl} {l : List α} {row : Option Nat} (h : Own base w x e s enc l) (hg : w.grownBy w' row) (hne : x.val.ownBlock = none ∨ x.val.ownBlock ≠ row) : Own base w' x e s enc l := World.ownsRow.kept h hg hne
theorem Own2.ext (h : Own2 base w o e1 e s enc vs rows) (hx : Ext w w') : Own2 base w' o e1 e s enc vs rows :=
  ⟨h.own.ext hx, fun j v hj => (h.row j v hj).ext hx, h.d1, h.d2⟩
/-- Behind an append to the t-th slice the outer one is as it was. -/
theorem Own2.mid (h : Own2 base w o e1 e s enc vs rows) {t : Nat} (hv : vs[t]? = some v) (hg : w.grownBy w1 v.val.ownBlock) : Own base w1 o e1 1 svl vs := by
  refine keptRow h.own hg ?_
  rcases h.d1 t v hv with h1 | h1
  · cases hq : o.val.ownBlock with
    | none => exact .inl rfl
    | some g => exact .inr (by rw [h1]; simp)
  · exact .inr (Ne.symm h1)
theorem Own2.step (h : Own2 base w o e1 e s enc vs rows) {t : Nat} {y : List α} (hv : vs[t]? = some v) (ho : Own base w1 v' e s enc (rows t ++ y)) (hg : w.grownBy w1 v.val.ownBlock)
    (hf : ∀ k, v'.val.ownBlock = some k → v.val.ownBlock = some k ∨ w.heap.size ≤ k) (ho2 : Own base w2 o e1 1 svl (vs.set t v')) (hg2 : w1.grownBy w2 o.val.ownBlock) :
    Own2 base w2 o e1 e s enc (vs.set t v') (fun j => if j = t then rows t ++ y else rows j) := by
  have ht := (List.getElem?_eq_some_iff.1 hv).1
  have hoB : ∀ g, o.val.ownBlock = some g → g < w.heap.size := fun g hgk => (World.ownsRow.lt h.own g hgk).2
  have hrB : ∀ (j : Nat) (u : Sl), vs[j]? = some u → ∀ g, u.val.ownBlock = some g → g < w.heap.size := fun j u hj g hgk => (World.ownsRow.lt (h.row j u hj) g hgk).2
  have hv'o : v'.val.ownBlock = none ∨ v'.val.ownBlock ≠ o.val.ownBlock := by
    cases hq : v'.val.ownBlock with
    | none => exact .inl rfl
    | some k =>
      refine .inr fun he => ?_
      have hk := hoB k he.symm
      rcases hf k hq with h1 | h1
      · rcases h.d1 t v hv with h2 | h2
        · rw [h2] at h1; cases h1
        · exact h2 (h1.trans he)
      · omega
  have hv'u : ∀ (j : Nat) (u : Sl), j ≠ t → vs[j]? = some u → v'.val.ownBlock = none ∨ v'.val.ownBlock ≠ u.val.ownBlock := by
    intro j u hj hu
    cases hq : v'.val.ownBlock with
    | none => exact .inl rfl
    | some k =>
      refine .inr fun he => ?_
      have hk := hrB j u hu k he.symm
      rcases hf k hq with h1 | h1
      · rcases h.d2 t j v u (Ne.symm hj) hv hu with h2 | h2
        · rw [h2] at h1; cases h1
        · exact h2 (h1.trans he)
      · omega
  have sw : ∀ {a b : Option Nat}, a = none ∨ a ≠ b → b = none ∨ b ≠ a := by
    intro a b h
    rcases h with h | h
    · cases b with
      | none => exact .inl rfl
      | some g => exact .inr (by rw [h]; simp)
    · exact .inr (Ne.symm h)
  refine ⟨ho2, ?_, ?_, ?_⟩
  · intro j u hj
    by_cases hjt : j = t
    · subst hjt
      rw [List.getElem?_set_self ht] at hj
      cases hj
      simp only [if_true]
      exact keptRow ho hg2 hv'o
    · rw [List.getElem?_set_ne (Ne.symm hjt)] at hj
      rw [if_neg hjt]
      exact keptRow (keptRow (h.row j u hj) hg (h.d2 j t u v hjt hj hv)) hg2 (h.d1 j u hj)
  · intro j u hj
    by_cases hjt : j = t
    · subst hjt
      rw [List.getElem?_set_self ht] at hj
      cases hj
      exact hv'o
    · rw [List.getElem?_set_ne (Ne.symm hjt)] at hj
      exact h.d1 j u hj
  · intro j k u x hjk hj hk
    by_cases hjt : j = t
    · subst hjt
      rw [List.getElem?_set_self ht] at hj
      rw [List.getElem?_set_ne hjk] at hk
      cases hj
      exact hv'u k x (Ne.symm hjk) hk
    · rw [List.getElem?_set_ne (Ne.symm hjt)] at hj
      by_cases hkt : k = t
      · subst hkt
        rw [List.getElem?_set_self ht] at hk
        cases hk
        exact sw (hv'u j u hjt hj)
      · rw [List.getElem?_set_ne (Ne.symm hkt)] at hk
        exact h.d2 j k u x hjk hj hk
/-- Fresh out of 'make'. -/
theorem Own2.made {n : Nat} (h : Own base w o e1 1 svl (List.replicate n Sl.nil)) : Own2 base w o e1 e s enc (List.replicate n Sl.nil) (fun _ => []) := by
  have hn : ∀ (j : Nat) (v : Sl), (List.replicate n Sl.nil)[j]? = some v → v = Sl.nil := fun j v hj => List.eq_of_mem_replicate (List.mem_of_getElem? hj)
  refine ⟨h, fun j v hj => ?_, fun j v hj => ?_, fun j k v u _ hj _ => ?_⟩ <;> (rw [hn j v hj])
  · exact Own.nil _ _ _ _ _
  · exact .inl rfl
  · exact .inl rfl
theorem Own2.mono {base' : Nat} (h : Own2 base w o e1 e s enc vs rows) (hb : base' ≤ base) : Own2 base' w o e1 e s enc vs rows := ⟨h.own.mono hb, fun j v hj => (h.row j v hj).mono hb, h.d1, h.d2⟩
theorem Own2.congr {rows' : Nat → List α} (h : Own2 base w o e1 e s enc vs rows) (he : ∀ j, rows j = rows' j) : Own2 base w o e1 e s enc vs rows' := ⟨h.own, fun j v hj => he j ▸ h.row j v hj, h.d1, h.d2⟩
end Go.E
