/-
  slices.Sort and slices.Compact of numbers, on a slice of the caller's own.
-/
import Derived.Test.YtmajbdehejhbfaaSha
import Derived.Test.YtmajbdehejhbfaaSrt
import Derived.Test.YtmajbdehejhbfaaEls
import Derived.Lib.RowBridge
namespace Go.Proofs.Ytmajbdehejhbfaa
open Go Go.RowKit

theorem ahead_grow0 (w : World) (q : Nat) (blk : Nat) (d : Array Int) : Sort.putRow (Value.int .i64) (Sort.ahead w q) blk 0 d = Sort.grow (Sort.putRow (Value.int .i64) (Sort.ahead w q) blk 0 d) #[] := by simp
theorem Sort_int_ok (w : World) (base : Nat) (v : E.Sl) (l : List Int) (h : E.Own base w v 3 1 il l) (hl : l.length ≤ 100000000) :
    Calls Try.prog 100 #[v.val] w fun e w' => e = .returned (.tuple #[]) ∧ w.grownBy w' v.val.ownBlock ∧ E.Own base w' v 3 1 il (l.mergeSort fun x y => decide (x ≤ y)) := by
  have hn := h.len
  obtain ⟨p, n, cap⟩ := v
  rcases h.p with hp | ⟨hp, ho, hb, hlt⟩
  · cases hp
    have h0 : l = [] := by
      rcases h.2 with ⟨_, h2⟩ | ⟨g, c, cur, h1, _⟩
      · exact List.eq_nil_of_length_eq_zero h2
      · simp at h1
    subst h0
    cases hn
    refine (sh_slices_Sort_int_none none cap w).mono ?_
    rintro _ _ ⟨rfl, rfl⟩
    exact ⟨rfl, ⟨rfl, rfl, rfl, Nat.le_refl _, fun _ _ _ => rfl⟩, by simpa using h⟩
  · simp only [E.Sl.b, E.Sl.o] at hp ho hlt
    cases p with
    | none => cases hp
    | some a =>
      obtain ⟨g, o, x⟩ := a
      simp at hp ho hlt
      obtain ⟨rfl, rfl⟩ := hp
      have hn' : n = l.length := hn
      subst hn'
      refine (sh_slices_Sort_int g 0 cap l w (E.own_holds h) hlt (by omega)).mono ?_
      rintro _ _ ⟨rfl, q, os, rfl⟩
      refine ⟨rfl, E.put_grown _ _ _ _ _ _, ?_⟩
      have := E.own_put (enc := Value.int .i64) h (l' := l.mergeSort fun x y => decide (x ≤ y)) (by simp) q os l.length (Nat.le_refl _)
      rwa [List.take_of_length_le (by simp)] at this
theorem Compact_int_ok (w : World) (base : Nat) (v : E.Sl) (l : List Int) (h : E.Own base w v 3 1 il l) (hl : l.length ≤ 100000000) :
    Calls Try.prog 101 #[v.val] w fun e w' => ∃ u : E.Sl, e = .returned u.val ∧ w.grownBy w' v.val.ownBlock ∧ E.Own base w' u 3 1 il (Lib.compact l) := by
  have hn := h.len
  obtain ⟨p, n, cap⟩ := v
  by_cases h0 : l = []
  · subst h0
    cases hn
    refine (sh_slices_Compact_int_empty p cap w).mono ?_
    rintro _ _ ⟨rfl, rfl⟩
    exact ⟨⟨p, 0, cap⟩, rfl, ⟨rfl, rfl, rfl, Nat.le_refl _, fun _ _ _ => rfl⟩, h⟩
  · rcases h.2 with ⟨_, h2⟩ | ⟨g, c, cur, h1, _, hg, hnc, _⟩
    · exact absurd (List.eq_nil_of_length_eq_zero h2) h0
    · simp only [E.Sl.val, Value.slice.injEq] at h1
      obtain ⟨rfl, rfl, rfl⟩ := h1
      refine (sh_slices_Compact_int g 0 cap l w (E.own_holds h) (by omega) hnc).mono ?_
      rintro _ _ ⟨rfl, q, rfl⟩
      have hle : (Lib.compact l).length ≤ l.length := Lib.compact_length_le l
      rw [ahead_grow0]
      refine ⟨⟨some ⟨g, 0, none⟩, (Lib.compact l).length, cap⟩, rfl, E.put_grown _ _ _ _ _ _, ?_⟩
      have := E.own_put (enc := Value.int .i64) h (l' := Lib.compact l ++ List.replicate (l.length - (Lib.compact l).length) 0) (by simp; omega) q #[] (Lib.compact l).length hle
      rwa [List.take_left] at this
end Go.Proofs.Ytmajbdehejhbfaa
