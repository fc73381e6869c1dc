/-
  The plain laws behind the routes: both ways of counting are one where the points rise.
-/
import Derived.Test.YtmajbdehejhbfaaRoute4
namespace Go.Proofs.Ytmajbdehejhbfaa
open Go Go.RowKit

theorem cmpB_trans : ∀ (a b c : List UInt8), Lib.compareBytes a b < 0 → Lib.compareBytes b c ≤ 0 → Lib.compareBytes a c < 0
  | [], [], _, h, _ => by simp [Lib.compareBytes] at h
  | [], _ :: _, [], _, h => by simp [Lib.compareBytes] at h
  | [], _ :: _, _ :: _, _, _ => by simp [Lib.compareBytes]
  | _ :: _, [], _, h, _ => by simp [Lib.compareBytes] at h
  | _ :: _, _ :: _, [], _, h => by simp [Lib.compareBytes] at h
  | x :: a, y :: b, z :: c, h1, h2 => by
    have ih := cmpB_trans a b c
    simp only [Lib.compareBytes, UInt8.lt_iff_toNat_lt] at h1 h2 ⊢
    by_cases e1 : x.toNat < y.toNat
    · by_cases e2 : y.toNat < z.toNat
      · rw [if_pos (by omega)]; decide
      · rw [if_neg e2] at h2
        by_cases e3 : z.toNat < y.toNat
        · rw [if_pos e3] at h2; omega
        · rw [if_pos (by omega)]; decide
    · rw [if_neg e1] at h1
      by_cases e4 : y.toNat < x.toNat
      · rw [if_pos e4] at h1; omega
      · rw [if_neg e4] at h1
        by_cases e2 : y.toNat < z.toNat
        · rw [if_pos (by omega)]; decide
        · rw [if_neg e2] at h2
          by_cases e3 : z.toNat < y.toNat
          · rw [if_pos e3] at h2; omega
          · rw [if_neg e3] at h2
            rw [if_neg (by omega), if_neg (by omega)]
            exact ih h1 h2
theorem kcmp_trans {a b c : Key} (h1 : kcmp a b < 0) (h2 : kcmp b c ≤ 0) : kcmp a c < 0 := cmpB_trans _ _ _ h1 h2
theorem ok_rise {ps : List Key} (h : Okps ps) : ps.Pairwise fun a b => kcmp a b < 0 := by
  rw [List.pairwise_iff_getElem]
  intro i j hi hj hij
  have key : ∀ d (hd : i + d + 1 < ps.length), kcmp ps[i] ps[i + d + 1] < 0 := by
    intro d
    induction d with
    | zero =>
      intro hd
      exact (h.1 (i + 1) hd _ (List.getElem?_eq_getElem hd)).2 _ (by omega) (by simp [List.getElem?_eq_getElem hi])
    | succ d ih =>
      intro hd
      have h1 := ih (by omega)
      have h2 := (h.1 (i + (d + 1) + 1) hd _ (List.getElem?_eq_getElem hd)).2 _ (by omega) (List.getElem?_eq_getElem (by omega))
      exact kcmp_trans h1 (Int.le_of_lt h2)
  obtain ⟨d, rfl⟩ : ∃ d, j = i + d + 1 := ⟨j - i - 1, by omega⟩
  exact key d hj
theorem filter_eq_takeWhile {α : Type} {p : α → Bool} : ∀ {l : List α}, l.Pairwise (fun a b => p b = true → p a = true) → l.filter p = l.takeWhile p
  | [], _ => rfl
  | a :: l, h => by
    rw [List.pairwise_cons] at h
    cases hp : p a with
    | true => rw [List.filter_cons_of_pos hp, List.takeWhile_cons_of_pos hp, filter_eq_takeWhile h.2]
    | false =>
      rw [List.filter_cons_of_neg (by simp [hp]), List.takeWhile_cons_of_neg (by simp [hp])]
      rw [List.filter_eq_nil_iff]
      intro b hb hpb
      have := h.1 b hb hpb
      rw [hp] at this
      cases this
theorem rofI_eq {ps : List Key} (h : Okps ps) : rofI ps = ofI ps := by
  funext k
  have : rcnt k ps = cnt k ps := by
    rw [rcnt, cnt, filter_eq_takeWhile]
    refine (ok_rise h).imp fun {a b} hab hb => ?_
    simp only [decide_eq_true_eq] at hb ⊢
    exact Int.le_of_lt (kcmp_trans hab hb)
  rw [rofI, ofI, this]

/-! ### Sorted lists without repeats -/
theorem rise_ext : ∀ {l m : List Int}, l.Pairwise (· < ·) → m.Pairwise (· < ·) → (∀ x, x ∈ l ↔ x ∈ m) → l = m
  | [], [], _, _, _ => rfl
  | [], y :: m, _, _, h => by have := (h y).2 (by simp); simp at this
  | x :: l, [], _, _, h => by have := (h x).1 (by simp); simp at this
  | x :: l, y :: m, h1, h2, h => by
    rw [List.pairwise_cons] at h1 h2
    have hxy : x = y := by
      have a1 := (h x).1 (by simp)
      have a2 := (h y).2 (by simp)
      rcases List.mem_cons.1 a1 with e | e
      · exact e
      · rcases List.mem_cons.1 a2 with e' | e'
        · exact e'.symm
        · have b1 := h2.1 x e
          have b2 := h1.1 y e'
          omega
    subst hxy
    rw [rise_ext h1.2 h2.2 fun z => ?_]
    constructor
    · intro hz
      rcases List.mem_cons.1 ((h z).1 (by simp [hz])) with e | e
      · subst e; have := h1.1 z hz; omega
      · exact e
    · intro hz
      rcases List.mem_cons.1 ((h z).2 (by simp [hz])) with e | e
      · subst e; have := h2.1 z hz; omega
      · exact e
theorem compact_get (zs : List Int) (j : Nat) (h : j < zs.length) : zs.toArray[j]! = zs[j] := by simp [h]
theorem compact_mem (zs : List Int) (x : Int) : x ∈ Lib.compact zs ↔ x ∈ zs := by
  simp only [Lib.compact, Lib.compactUpTo, List.mem_map, List.mem_filter, List.mem_range]
  constructor
  · rintro ⟨j, ⟨hj, _⟩, rfl⟩
    rw [compact_get zs j hj]; exact List.getElem_mem hj
  · intro hx
    obtain ⟨j, hj, rfl⟩ := List.getElem_of_mem hx
    have key : ∀ j (hj : j < zs.length), ∃ i, (i < zs.length ∧ Lib.keeps zs.toArray i = true) ∧ zs.toArray[i]! = zs[j] := by
      intro j
      induction j with
      | zero => intro hj; exact ⟨0, ⟨hj, by simp [Lib.keeps]⟩, compact_get zs 0 hj⟩
      | succ j ih =>
        intro hj
        by_cases he : zs[j + 1] = zs[j]
        · obtain ⟨i, hi, e⟩ := ih (by omega)
          exact ⟨i, hi, e.trans he.symm⟩
        · refine ⟨j + 1, ⟨hj, ?_⟩, compact_get zs _ hj⟩
          simp only [Lib.keeps, Nat.add_sub_cancel, decide_eq_true_eq]
          rw [compact_get zs (j + 1) hj, compact_get zs j (by omega)]
          exact .inr he
    exact key j hj
theorem compact_rise (zs : List Int) (h : zs.Pairwise (· ≤ ·)) : (Lib.compact zs).Pairwise (· < ·) := by
  simp only [Lib.compact, Lib.compactUpTo]
  rw [List.pairwise_map]
  have hr : ((List.range zs.length).filter (Lib.keeps zs.toArray)).Pairwise fun i j => i < j ∧ j < zs.length ∧ Lib.keeps zs.toArray j = true := by
    rw [List.pairwise_filter]
    refine (List.pairwise_lt_range (n := zs.length)).imp_of_mem fun {i j} hi hj hij _ hk => ?_
    exact ⟨hij, List.mem_range.1 hj, hk⟩
  refine hr.imp fun {i j} ⟨hij, hj, hk⟩ => ?_
  rw [compact_get zs i (by omega), compact_get zs j hj]
  simp only [Lib.keeps, decide_eq_true_eq] at hk
  have hne : zs[j] ≠ zs[j - 1] := by
    rcases hk with h0 | h0
    · omega
    · rw [compact_get zs j hj, compact_get zs (j - 1) (by omega)] at h0; exact h0
  have h1 : zs[j - 1] ≤ zs[j] := List.pairwise_iff_getElem.1 h (j - 1) j (by omega) hj (by omega)
  have h2 : zs[i] ≤ zs[j - 1] := by
    by_cases he : i = j - 1
    · subst he; exact Int.le_refl _
    · exact List.pairwise_iff_getElem.1 h i (j - 1) (by omega) (by omega) (by omega)
  omega
theorem sorted_le (l : List Int) : (l.mergeSort fun x y => decide (x ≤ y)).Pairwise (· ≤ ·) := by
  have := List.pairwise_mergeSort (le := fun x y : Int => decide (x ≤ y)) (fun a b c h1 h2 => by simp at *; omega) (fun a b => by simp; omega) l
  exact this.imp fun {a b} h => by simpa using h
theorem parts_eq {ps : List Key} (h : Okps ps) (ws : List Write) : parts ps ws = rparts ps ws := by
  rw [parts, rparts, rofI_eq h]
  refine rise_ext (compact_rise _ (sorted_le _)) ?_ fun x => ?_
  · rw [rpartsN, List.pairwise_map]
    refine (List.pairwise_lt_range (n := ps.length + 1)).filter _ |>.imp fun {i j} hij => by omega
  · rw [compact_mem, List.mem_mergeSort]
    simp only [pnodes, rpartsN, List.mem_filter, List.mem_map, List.mem_range, decide_eq_true_eq]
    constructor
    · rintro ⟨⟨y, hy, rfl⟩, h0⟩
      obtain ⟨t, ht⟩ := Int.eq_ofNat_of_zero_le h0
      have hlt := ofI_lt ps y.key
      refine ⟨t, ⟨by omega, ?_⟩, ht.symm⟩
      rw [List.length_pos_iff_exists_mem]
      exact ⟨y, by simp [rowsOf, hy, ht]⟩
    · rintro ⟨t, ⟨ht, hp⟩, rfl⟩
      rw [List.length_pos_iff_exists_mem] at hp
      obtain ⟨y, hy⟩ := hp
      simp only [rowsOf, List.mem_filter, decide_eq_true_eq] at hy
      exact ⟨⟨y, hy.1, hy.2⟩, by omega⟩
theorem parts_le (ps : List Key) (ws : List Write) : (parts ps ws).length ≤ ws.length := by
  have h1 := Lib.compact_length_le ((pnodes ps ws).mergeSort fun x y => decide (x ≤ y))
  rw [List.length_mergeSort] at h1
  exact Nat.le_trans h1 (pnodes_le ps ws)
end Go.Proofs.Ytmajbdehejhbfaa
