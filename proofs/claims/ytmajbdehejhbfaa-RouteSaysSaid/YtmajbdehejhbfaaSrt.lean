/-
  What the sorts and such leave behind, in the words of own slices. Nothing of a program stands here.
-/
import Derived.Test.YtmajbdehejhbfaaOwn
import Derived.Sort.Grow
import Derived.Sort.Row
namespace Go.E
open Go Go.RowKit

theorem flatMap_one {α : Type} (enc : α → Value) (l : List α) : (l.flatMap fun x => [enc x]) = l.map enc := by
  induction l with
  | nil => rfl
  | cons x l ih => simp [ih]
theorem own_holds {α : Type} [Inhabited α] {enc : α → Value} {base e g cap n : Nat} {w : World} {l : List α} (h : Own base w ⟨some ⟨g, 0, none⟩, n, cap⟩ e 1 (fun x => [enc x]) l) : Sort.Holds enc w g 0 l.toArray := by
  intro j hj
  rcases h.2 with ⟨h1, _⟩ | ⟨g', cap', cur, h1, _, h3, _, _, _, h7⟩
  · simp at h1
  · simp only [Sl.val, Value.slice.injEq, Option.some.injEq, Addr.mk.injEq, and_true] at h1
    obtain ⟨rfl, rfl, rfl⟩ := h1
    have hj' : j < l.length := by simpa using hj
    rw [flatMap_one] at h7
    have hc : cur[j]? = some (enc l[j]) := by
      have := congrArg (·[j]?) h7
      simp only [List.getElem?_take, List.getElem?_map, List.getElem?_eq_getElem hj', Option.map_some] at this
      rw [if_pos (by omega)] at this
      simpa using this
    refine ⟨?_, ?_⟩
    · rw [cell_of_row w g _ cur e (0, 0) h3, Nat.zero_add, hc]
      simp [hj']
    · simp [World.frozen?, h3]
theorem put_block {α : Type} [Inhabited α] (enc : α → Value) (w : World) (g : Nat) (d : Array α) (cur : Array Value) (e : TypeId) (q : Nat) (os : Array Obj) (h : w.heap[g]? = some (.cells cur e (0, 0))) :
    (Sort.grow (Sort.putRow enc (Sort.ahead w q) g 0 d) os).heap[g]? = some (.cells (Sort.putCells enc 0 d cur) e (0, 0)) := by
  have hg := (Array.getElem?_eq_some_iff.1 h).1
  have : (Sort.putRow enc (Sort.ahead w q) g 0 d).heap[g]? = some (.cells (Sort.putCells enc 0 d cur) e (0, 0)) := by
    simp only [Sort.putRow, Sort.mapBlock, Sort.ahead, Array.getElem?_modify, if_true, h]
    rfl
  rw [Sort.heap_grow_old _ _ (by simpa [Sort.putRow, Sort.mapBlock, Sort.ahead] using hg)]
  exact this
theorem put_grown {α : Type} [Inhabited α] (enc : α → Value) (w : World) (g : Nat) (d : Array α) (q : Nat) (os : Array Obj) : w.grownBy (Sort.grow (Sort.putRow enc (Sort.ahead w q) g 0 d) os) (some g) := by
  refine ⟨rfl, rfl, rfl, by simp [Sort.grow, Sort.putRow, Sort.mapBlock, Sort.ahead], fun k hk hne => ?_⟩
  rw [Sort.heap_grow_old _ _ (by simpa [Sort.putRow, Sort.mapBlock, Sort.ahead] using hk)]
  simp only [Sort.putRow, Sort.mapBlock, Sort.ahead, Array.getElem?_modify]
  rw [if_neg (fun h => hne (by rw [h]))]
theorem own_put {α : Type} [Inhabited α] {enc : α → Value} {base e g cap n : Nat} {w : World} {l l' : List α} (h : Own base w ⟨some ⟨g, 0, none⟩, n, cap⟩ e 1 (fun x => [enc x]) l) (hl : l'.length = l.length) (q : Nat) (os : Array Obj) (m : Nat) (hm : m ≤ l.length) :
    Own base (Sort.grow (Sort.putRow enc (Sort.ahead w q) g 0 l'.toArray) os) ⟨some ⟨g, 0, none⟩, m, cap⟩ e 1 (fun x => [enc x]) (l'.take m) := by
  have hn : n = l.length := h.len
  rcases h.2 with ⟨h1, _⟩ | ⟨g', cap', cur, h1, h2, h3, h4, h5, h6, h7⟩
  · simp at h1
  · simp only [Sl.val, Value.slice.injEq, Option.some.injEq, Addr.mk.injEq, and_true] at h1
    obtain ⟨rfl, rfl, rfl⟩ := h1
    have hlen : (l'.take m).length = m := by rw [List.length_take]; omega
    refine ⟨by rw [flatMap_one]; simp, .inr ⟨g, cap, _, by rw [hlen], h2, put_block enc w g _ cur e q os h3, by rw [hlen]; omega, h5, by simp [Sort.putCells, h6], ?_⟩⟩
    rw [flatMap_one, hlen, Nat.mul_one]
    apply List.ext_getElem?
    intro j
    simp only [List.getElem?_take, List.getElem?_map, Sort.putCells, Array.getElem?_toList, Array.getElem?_mapIdx, Nat.zero_le, true_and, Nat.zero_add, Nat.sub_zero, List.size_toArray]
    by_cases hj : j < m
    · have hjc : j < cur.size := by omega
      have hj' : j < l'.length := by omega
      simp [hj, hjc, hj']
    · simp [hj]
end Go.E
