/-
  Slices of a call's own, appends to them, values put together. Nothing of a program stands here.
-/
import Derived.Test.YtmajbdehejhbfaaOps
import Derived.Laws.AppendOwn
import Derived.Laws.OwnMore
import Derived.Laws.MakeOwn
import Derived.Laws.StructEq
import Derived.Laws.Cover3
namespace Go.E
open Go Go.RowKit
variable {α : Type}

/-- A slice of the call's own: above base, from its block's start. -/
def Own (base : Nat) (w : World) (v : Sl) (e s : Nat) (enc : α → List Value) (l : List α) : Prop := w.ownsRow base e s v.val l.length (l.flatMap enc)
section
variable {base e s : Nat} {enc : α → List Value} {w w' : World} {v : Sl} {l : List α}
theorem Own.nil (base : Nat) (w : World) (e s : Nat) (enc : α → List Value) : Own base w Sl.nil e s enc [] := by
  simpa [Own, Sl.nil] using World.ownsRow_nil w base e s
theorem Own.len (h : Own base w v e s enc l) : v.len = l.length := by
  obtain ⟨p, n, c⟩ := v
  rcases h.2 with ⟨h1, h2⟩ | ⟨g, cap, cur, h1, _⟩
  · simp at h1; simp [h1.2.1, h2]
  · simp at h1; simp [h1.2.1]
theorem Own.p (h : Own base w v e s enc l) : v.p = none ∨ (v.p = some ⟨v.b, 0, none⟩ ∧ v.o = 0 ∧ base ≤ v.b ∧ v.b < w.heap.size) := by
  obtain ⟨p, n, c⟩ := v
  rcases h.2 with ⟨h1, h2⟩ | ⟨g, cap, cur, h1, h2, h3, _⟩
  · simp at h1; simp [h1.1]
  · simp at h1
    obtain ⟨rfl, _, _⟩ := h1
    exact .inr ⟨rfl, rfl, h2, (Array.getElem?_eq_some_iff.1 h3).1⟩
theorem flatMap_at (hs : ∀ x, (enc x).length = s) : ∀ (l : List α) (i : Nat) (x : α), l[i]? = some x → ∀ j u, (enc x)[j]? = some u → (l.flatMap enc)[i * s + j]? = some u
  | [], i, x, h => by simp at h
  | y :: l, 0, x, h => fun j u hj => by
    simp only [List.getElem?_cons_zero, Option.some.injEq] at h
    subst h
    simp only [Nat.zero_mul, Nat.zero_add, List.flatMap_cons]
    rw [List.getElem?_append_left]
    · exact hj
    · exact (List.getElem?_eq_some_iff.1 hj).1
  | y :: l, i + 1, x, h => fun j u hj => by
    have := flatMap_at hs l i x (by simpa using h) j u hj
    simp only [List.flatMap_cons]
    rw [List.getElem?_append_right (by rw [hs, Nat.add_mul]; omega), hs, ← this]
    congr 1
    rw [Nat.add_mul]; omega
theorem Own.rd (h : Own base w v e s enc l) (hs : ∀ x, (enc x).length = s) : Rd w v s enc l := by
  refine ⟨h.len, fun i x hi => ?_⟩
  obtain ⟨p, n, c⟩ := v
  rcases h.2 with ⟨h1, h2⟩ | ⟨g, cap, cur, h1, h2, h3, _⟩
  · have : l = [] := List.eq_nil_of_length_eq_zero h2
    subst this; simp at hi
  · simp at h1
    obtain ⟨rfl, rfl, rfl⟩ := h1
    refine ⟨rfl, fun j u hj => ?_⟩
    have := World.ownsRow.cells h (g := g) rfl (i * s + j) u (flatMap_at hs l i x hi j u hj)
    rw [Addr.add_mid] at this
    simpa [Sl.b, Sl.o] using this
theorem Own.grown (h : Own base w v e s enc l) {row : Option Nat} (hg : w.grownBy w' row) (hne : v.p = none ∨ some v.b ≠ row) : Own base w' v e s enc l := by
  refine World.ownsRow.kept h hg ?_
  obtain ⟨p, n, c⟩ := v
  cases p with
  | none => exact .inl rfl
  | some a => exact .inr (by simpa [Value.ownBlock, Sl.b] using hne)
theorem grownBy_ext (h : Ext w w') : w.grownBy w' none := ⟨h.os, h.tape, h.output, h.size, fun k hk _ => h.block k hk⟩
theorem Own.ext (h : Own base w v e s enc l) (hx : Ext w w') : Own base w' v e s enc l := h.grown (grownBy_ext hx) (by simp)
theorem Own.mono {base' : Nat} (h : Own base w v e s enc l) (hb : base' ≤ base) : Own base' w v e s enc l := by
  refine ⟨h.1, ?_⟩
  rcases h.2 with h | ⟨g, cap, cur, h1, h2, h3⟩
  · exact .inl h
  · exact .inr ⟨g, cap, cur, h1, by omega, h3⟩
theorem ext_grown {w0 : World} {row : Option Nat} (h : Ext w0 w) (hg : w.grownBy w' row) (hr : ∀ k, row = some k → w0.heap.size ≤ k) : Ext w0 w' := Below.grown h hg h.size hr
theorem range_grown {row : Option Nat} {b o : Nat} {cs : List Value} (h : w.rangeAt b o cs) (hg : w.grownBy w' row) (hr : some b ≠ row) : w'.rangeAt b o cs := fun j u hj => hg.cell (h j u hj) hr
theorem there_grown {row : Option Nat} {b o n : Nat} (h : w.there b o n) (hg : w.grownBy w' row) (hr : some b ≠ row) : w'.there b o n := by
  intro j hj
  obtain ⟨h1, h2⟩ := h j hj
  obtain ⟨u, hu⟩ := Option.isSome_iff_exists.1 h1
  have hb := World.block_lt_of_cell? w _ hu
  refine ⟨by rw [hg.cell hu hr]; rfl, ?_⟩
  exact (World.frozen?_of_block (a := ⟨b, o + j, none⟩) (hg.block b hb hr)).trans h2
/-- An own slice is not in a block that came later. -/
theorem Own.ne {w1 : World} {b : Nat} (h : Own base w v e s enc l) (hx : w.heap.size ≤ w1.heap.size) (hb : b = w1.heap.size) : some b ≠ v.val.ownBlock := by
  intro he
  have := (World.ownsRow.lt h b he.symm).2
  omega
theorem Own.above (h : Own base w v e s enc l) : ∀ k, v.val.ownBlock = some k → base ≤ k := fun k hk => (World.ownsRow.lt h k hk).1
end

/-- What is asked of the elements' type. -/
def El (P : Program) (e s : Nat) : Prop := (P.info? e).map (fun i => (i.size, decide (i.bytes ≤ 1024), i.zero.map (·.cells.size))) = some (s, true, some s)
theorem El.info {P : Program} {e s : Nat} (h : El P e s) : ∃ i z, P.info? e = some i ∧ i.size = s ∧ i.bytes ≤ 1024 ∧ i.zero = some z ∧ z.cells.size = s := by
  unfold El at h
  cases hq : P.info? e with
  | none => simp [hq] at h
  | some i =>
    simp only [hq, Option.map_some, Option.some.injEq, Prod.mk.injEq, decide_eq_true_eq] at h
    obtain ⟨h1, h2, h3⟩ := h
    cases hz : i.zero with
    | none => simp [hz] at h3
    | some z => exact ⟨i, z, rfl, h1, h2, hz, by simpa [hz] using h3⟩
theorem sl_eta {r : Value} {base n size : Nat} {w : World} {e : Nat} {xs : List Value} (h : w.ownsRow base e size r n xs) : ∃ v : Sl, r = v.val := by
  rcases h.2 with ⟨rfl, _⟩ | ⟨g, cap, cur, rfl, _⟩
  · exact ⟨⟨none, 0, 0⟩, rfl⟩
  · exact ⟨⟨some ⟨g, 0, none⟩, n, cap⟩, rfl⟩
theorem flatMap_len {enc : α → List Value} {s : Nat} (hs : ∀ x, (enc x).length = s) (l : List α) : (l.flatMap enc).length = l.length * s := by
  induction l with
  | nil => simp
  | cons x l ih => simp only [List.flatMap_cons, List.length_append, hs, ih, List.length_cons, Nat.add_mul]; omega
theorem flatMap_split {enc : α → List Value} {s : Nat} (hs : ∀ x, (enc x).length = s) (hpos : 0 < s) (l : List α) (j : Nat) (u : Value) (h : (l.flatMap enc)[j]? = some u) : ∃ x, l[j / s]? = some x ∧ (enc x)[j % s]? = some u := by
  have hlt : j < l.length * s := by rw [← flatMap_len hs]; exact (List.getElem?_eq_some_iff.1 h).1
  have hd : j / s < l.length := Nat.div_lt_of_lt_mul (by rw [Nat.mul_comm]; exact hlt)
  have hx : l[j / s]? = some l[j / s] := List.getElem?_eq_getElem hd
  have hm : j % s < (enc l[j / s]).length := by rw [hs]; exact Nat.mod_lt _ hpos
  have := flatMap_at hs l (j / s) _ hx (j % s) _ (List.getElem?_eq_getElem hm)
  rw [Nat.div_add_mod' j s, h] at this
  exact ⟨_, hx, by rw [List.getElem?_eq_getElem hm]; exact this.symm⟩
theorem run_append {P : Program} {w : World} {base t ty e s : Nat} {enc : α → List Value} {v u : Sl} {l m : List α} (hu : P.underlying t = some (.slice e)) (he : El P e s) (hs : ∀ x, (enc x).length = s) (hpos : 0 < s) (h1 : ∀ x, ∀ c ∈ enc x, c.oneCell' = true)
    (hown : Own base w v e s enc l) (hr : Rd w u s enc m) (hn : l.length + m.length ≤ 100000000) (hbase : base ≤ w.heap.size) :
    ∃ v' w', (Builtin.append_ #[t, t] ty #[v.val, u.val]).run P w = .ok v'.val w' ∧ Own base w' v' e s enc (l ++ m) ∧ w.grownBy w' v.val.ownBlock ∧ ∀ k, v'.val.ownBlock = some k → v.val.ownBlock = some k ∨ w.heap.size ≤ k := by
  obtain ⟨i, z, hi, hsz, hby, hz, hzs⟩ := he.info
  have hone : ∀ c ∈ m.flatMap enc, c.oneCell' = true := by
    intro c hc
    obtain ⟨x, _, hx⟩ := List.mem_flatMap.1 hc
    exact h1 x c hx
  have key : ∀ (a : Addr) (n c : Nat), u = ⟨some a, n, c⟩ → ∃ v' w', (Builtin.append_ #[t, t] ty #[v.val, u.val]).run P w = .ok v'.val w' ∧ Own base w' v' e s enc (l ++ m) ∧ w.grownBy w' v.val.ownBlock ∧ ∀ k, v'.val.ownBlock = some k → v.val.ownBlock = some k ∨ w.heap.size ≤ k := by
    intro a n c hu'
    have hnm : n = m.length := by have := hr.1; rw [hu'] at this; exact this
    have hb : (l.length + m.length) * i.bytes ≤ 140737488355328 := Nat.le_trans (Nat.mul_le_mul hn hby) (by decide)
    have hnews : ∀ (j : Nat) (c' : Value), (m.flatMap enc)[j]? = some c' → w.cell? (a.add j) = some c' := by
      intro j c' hj
      obtain ⟨x, hx, hc⟩ := flatMap_split hs hpos m j c' hj
      obtain ⟨hp, hrg⟩ := hr.2 _ x hx
      rw [hu'] at hp hrg
      simp only [Option.some.injEq] at hp
      rw [hp, Addr.add_mid]
      have := hrg _ _ hc
      rw [Nat.add_assoc, Nat.div_add_mod' j s] at this
      exact this
    have h63 : l.length + m.length ≤ maxLen := by simp [maxLen]; omega
    obtain ⟨r, w', h, ho, hg, _⟩ := run_append_own (P := P) w base t ty e i z s i.bytes hu hi hz hsz rfl hzs hpos v.val l.length (l.flatMap enc) hown a m.length c (m.flatMap enc) (flatMap_len hs m) hnews hone h63 hb hbase
    obtain ⟨v', rfl⟩ := sl_eta ho
    refine ⟨v', w', by rw [hu', hnm]; exact h, ?_, hg, ?_⟩
    · unfold Own
      rw [List.flatMap_append, List.length_append]; exact ho
    · rcases hown.2 with ⟨hv0, hl0⟩ | ⟨g, cap, cur, hv0, hbg, hgg, hnc, hcm, hcs, htake⟩
      · obtain ⟨r2, w2, h2, ho2, _, _⟩ := run_append_own (P := P) w w.heap.size t ty e i z s i.bytes hu hi hz hsz rfl hzs hpos (.slice none 0 0) 0 [] (World.ownsRow_nil w w.heap.size e s) a m.length c (m.flatMap enc) (flatMap_len hs m) hnews hone (by omega) (by rw [hl0] at hb; exact hb) (Nat.le_refl _)
        rw [hv0, h2] at h
        cases h
        intro k hk
        exact .inr (World.ownsRow.lt ho2 k hk).1
      · have hown' : w.ownsRow base e s (.slice (some ⟨g, 0, none⟩) l.length cap) l.length (l.flatMap enc) := by rw [← hv0]; exact hown
        by_cases hroom : l.length + m.length ≤ cap
        · obtain ⟨w2, h2, _, _⟩ := run_append_fits (P := P) w base t ty e i s hu hi hsz g l.length cap (l.flatMap enc) hown' a m.length c (m.flatMap enc) (flatMap_len hs m) hnews hone hroom
          rw [hv0, h2] at h
          simp only [Result.ok.injEq] at h
          rw [← h.1, hv0]
          intro k hk
          exact .inl hk
        · have holds : ∀ j u, (l.flatMap enc)[j]? = some u → w.cell? ((⟨g, 0, none⟩ : Addr).add j) = some u := World.ownsRow.cells hown' (g := g) rfl
          have h2 := run_append_grow (P := P) w t ty e i z hu hi hz ⟨g, 0, none⟩ l.length cap (l.flatMap enc) (by rw [flatMap_len hs, hsz]) holds a m.length c (m.flatMap enc) (by rw [flatMap_len hs, hsz]) hnews (by omega) (by simp [maxLen] at h63; omega) (growslice_fits (by omega) hb)
          rw [hv0, h2] at h
          simp only [Result.ok.injEq] at h
          rw [← h.1]
          intro k hk
          simp only [Value.ownBlock, Option.some.injEq] at hk
          omega
  obtain ⟨p, n, c⟩ := u
  cases p with
  | some a => exact key a n c rfl
  | none =>
    have hm : m = [] := by
      cases m with
      | nil => rfl
      | cons x m => have := (hr.2 0 x rfl).1; simp at this
    subst hm
    have hn0 : n = 0 := hr.1
    subst hn0
    refine ⟨v, w, ?_, by simpa using hown, ⟨rfl, rfl, rfl, Nat.le_refl _, fun _ _ _ => rfl⟩, fun k hk => .inl hk⟩
    have h := run_append_owned_none (P := P) w base t ty e i s hu hi v.val l.length (l.flatMap enc) hown
    have : Builtin.append_ #[t, t] ty #[v.val, Value.slice none 0 c] = Builtin.append_ #[t, t] ty #[v.val, Value.slice none 0 0] := rfl
    rw [← this] at h
    exact h

section
variable {P : Program} {n : Nat} {ops : Array Oper} {K : Env → World → Prop} {rest : List Oper} {ρ : Env} {w : World} {d : Option Tmp} {ty : TypeId} {ps : String} {af : Array Edge}
theorem OW_append {x y : Operand} {base t e s : Nat} {enc : α → List Value} {v u : Sl} {l m : List α} (hx : ev ρ x = v.val) (hy : ev ρ y = u.val) (hu : P.underlying t = some (.slice e)) (he : El P e s) (hs : ∀ x, (enc x).length = s) (hpos : 0 < s) (h1 : ∀ x, ∀ c ∈ enc x, c.oneCell' = true)
    (hown : Own base w v e s enc l) (hr : Rd w u s enc m) (hn : l.length + m.length ≤ 100000000) (hbase : base ≤ w.heap.size) (hd : dOK n d = true)
    (h : ∀ v' w', Own base w' v' e s enc (l ++ m) → w.grownBy w' v.val.ownBlock → (∀ k, v'.val.ownBlock = some k → v.val.ownBlock = some k ∨ w.heap.size ≤ k) → OW P n ops K rest (updo ρ d v'.val) w') : OW P n ops K (⟨d, .call ⟨.builtin .append, #[x, y], #[t, t]⟩, ty, ps, af, none⟩ :: rest) ρ w := by
  obtain ⟨v', w', hrun, ho, hg, hf⟩ := run_append (ty := ty) hu he hs hpos h1 hown hr hn hbase
  exact OW_val rfl (r_append hx hy hrun) hd (h v' w' ho hg hf)
end

/-! ### Values put together -/
theorem foldl_set (off : Nat) : ∀ (p : List Value) (k : Nat) (cs : Array Value), off + k + p.length ≤ cs.size →
    (p.zipIdx k).foldl (fun cs (c, j) => cs.setIfInBounds (off + j) c) cs = (cs.toList.take (off + k) ++ p ++ cs.toList.drop (off + k + p.length)).toArray
  | [], k, cs, _ => by simp
  | c :: p, k, cs, h => by
    simp only [List.length_cons] at h
    simp only [List.zipIdx_cons, List.foldl_cons]
    rw [foldl_set off p (k + 1) _ (by simp; omega)]
    congr 1
    simp only [Array.toList_setIfInBounds, List.length_cons]
    apply List.ext_getElem?
    intro j
    have hl : cs.toList.length = cs.size := by simp
    simp only [List.getElem?_append, List.length_take, List.length_append, List.getElem?_take, List.getElem?_drop, List.getElem?_set, List.length_set, hl, List.getElem?_cons, List.length_cons]
    rw [show min (off + (k + 1)) cs.size = off + k + 1 by omega, show min (off + k) cs.size = off + k by omega]
    by_cases h1 : j < off + k
    · simp [show j < off + k + 1 + p.length by omega, show j < off + k + 1 by omega, h1, show ¬ (off + k = j) by omega, show j < off + k + (p.length + 1) by omega, show j < off + (k + 1) by omega]
    · by_cases h2 : j = off + k
      · subst h2
        simp [show off + k < off + (k + 1) by omega, show off + k < cs.size by omega, show off + k < off + k + 1 + p.length by omega]
      · by_cases h3 : j < off + k + 1 + p.length
        · simp [h3, show ¬ j < off + k + 1 by omega, h1, show j < off + k + (p.length + 1) by omega, show ¬ (j - (off + k) = 0) by omega, show j - (off + k) - 1 = j - (off + k + 1) by omega]
        · simp [h3, show ¬ j < off + k + (p.length + 1) by omega, show ¬ (off + k = off + (k + 1) + p.length + (j - (off + k + 1 + p.length))) by omega]
          congr 1; omega
def splice (cs : List Value) (off : Nat) (p : List Value) : List Value := cs.take off ++ p ++ cs.drop (off + p.length)
theorem fill_nil (place : Nat → Option (Nat × Nat)) (cs : Array Value) : Instr.fill place cs [] = some cs := rfl
theorem fill_cons {place : Nat → Option (Nat × Nat)} {cs : List Value} {i off n : Nat} {v : Value} {p : List Value} {rest : List (Nat × Value)} (hp : place i = some (off, n)) (hv : v.cells = p.toArray) (hn : p.length = n) (hc : off + n ≤ cs.length) :
    Instr.fill place cs.toArray ((i, v) :: rest) = Instr.fill place (splice cs off p).toArray rest := by
  subst hn
  simp only [Instr.fill, hp, hv, List.size_toArray]
  rw [if_neg (by simp; omega)]
  have := foldl_set off p 0 cs.toArray (by simpa using hc)
  simp only [Nat.add_zero] at this
  rw [← Array.foldl_toList, Array.toList_zipIdx, this]
  rfl
theorem splice_whole (cs p : List Value) (h : cs.length = p.length) : splice cs 0 p = p := by simp [splice, h]

/-- What a struct's type says of its cells: the zero ones, the fields' places. -/
def Bld (P : Program) (T : Nat) (zc : List Value) (places : Array (Nat × Nat)) : Prop :=
  ∃ zv fs, (P.info? T).bind (·.zero) = some zv ∧ zv.cells = zc.toArray ∧ P.underlying T = some (.struct fs) ∧ fs.toList.map (fun f => ((P.info? f.type).map fun i => (f.offset, i.size))) = places.toList.map some
theorem run_places {P : Program} (w : World) : ∀ (fs : List Field) (ps : List (Nat × Nat)), fs.map (fun f => ((P.info? f.type).map fun i => (f.offset, i.size))) = ps.map some →
    (fs.mapM fun f => Prod.mk f.offset <$> Go.sizeOf f.type : Sem (List (Nat × Nat))).run P w = .ok ps w
  | [], [], _ => by simp
  | [], _ :: _, h => by simp at h
  | _ :: _, [], h => by simp at h
  | f :: fs, p :: ps, h => by
    simp only [List.map_cons, List.cons.injEq] at h
    have ih := run_places w fs ps h.2
    cases hq : P.info? f.type with
    | none => simp [hq] at h
    | some i =>
      have h1 : (f.offset, i.size) = p := by simpa [hq] using h.1
      simp [Go.sizeOf, typeInfo, hq, ← h1] at ih ⊢
      simp [ih]
theorem run_build {P : Program} {T : Nat} {zc cs : List Value} {places : Array (Nat × Nat)} {parts : Array (Nat × Value)} {w : World} (hb : Bld P T zc places) (hf : Instr.fill (places[·]?) zc.toArray parts.toList = some cs.toArray) :
    (Instr.build T parts).run P w = .ok (.agg cs.toArray) w := by
  obtain ⟨zv, fs, hz, hzc, hu, hp⟩ := hb
  have hm := run_places (P := P) w fs.toList places.toList hp
  cases hq : P.info? T with
  | none => simp [hq] at hz
  | some i =>
    have hz' : i.zero = some zv := by simpa [hq] using hz
    have hm' : (fs.mapM fun f => Prod.mk f.offset <$> Go.sizeOf f.type : Sem (Array (Nat × Nat))).run P w = .ok places w := by
      rw [Array.mapM_eq_mapM_toList, Sem.run_map, hm]
      simp
    simp [Instr.build, zeroValue, typeInfo, hq, hz', run_underlying hu, hm', hzc, hf]
section
variable {P : Program} {ρ : Env} {w : World} {d : Option Tmp} {ty : TypeId} {ps : String} {af : Array Edge} {g : Option (Nat × Bool)} {t f1 f2 f3 f4 : Nat} {x1 x2 x3 x4 : Operand} {v1 v2 v3 v4 z : Value}
theorem r_build1 (h1 : ev ρ x1 = v1) (hb : (Instr.build t #[(f1, v1)]).run P w = .ok z w) : (execOp (ev ρ) ⟨d, .build t #[(f1, x1)], ty, ps, af, g⟩).run P w = .ok (.value z) w := by
  subst h1; simp [execOp, hb]
theorem r_build2 (h1 : ev ρ x1 = v1) (h2 : ev ρ x2 = v2) (hb : (Instr.build t #[(f1, v1), (f2, v2)]).run P w = .ok z w) : (execOp (ev ρ) ⟨d, .build t #[(f1, x1), (f2, x2)], ty, ps, af, g⟩).run P w = .ok (.value z) w := by
  subst h1; subst h2; simp [execOp, hb]
theorem r_build3 (h1 : ev ρ x1 = v1) (h2 : ev ρ x2 = v2) (h3 : ev ρ x3 = v3) (hb : (Instr.build t #[(f1, v1), (f2, v2), (f3, v3)]).run P w = .ok z w) : (execOp (ev ρ) ⟨d, .build t #[(f1, x1), (f2, x2), (f3, x3)], ty, ps, af, g⟩).run P w = .ok (.value z) w := by
  subst h1; subst h2; subst h3; simp [execOp, hb]
theorem r_build4 (h1 : ev ρ x1 = v1) (h2 : ev ρ x2 = v2) (h3 : ev ρ x3 = v3) (h4 : ev ρ x4 = v4) (hb : (Instr.build t #[(f1, v1), (f2, v2), (f3, v3), (f4, v4)]).run P w = .ok z w) : (execOp (ev ρ) ⟨d, .build t #[(f1, x1), (f2, x2), (f3, x3), (f4, x4)], ty, ps, af, g⟩).run P w = .ok (.value z) w := by
  subst h1; subst h2; subst h3; subst h4; simp [execOp, hb]
end

/-- A slice of one element. -/
theorem run_lit1 {P : Program} (w : World) {t e s : Nat} {v : Value} {cs : List Value} (hu : P.underlying t = some (.slice e)) (he : El P e s) (hv : v.cells = cs.toArray) (hn : cs.length = s) (hs : s ≤ 4096) :
    (Instr.buildSlice t 1 #[(0, v)]).run P w = .ok (.slice (some ⟨w.heap.size, 0, none⟩) 1 1) (w.alloc (.cells cs.toArray e)) := by
  obtain ⟨i, z, hi, hsz, hby, hz, hzs⟩ := he.info
  have hf : ∀ c0 : List Value, c0.length = s → Instr.fill (fun i => some (i * s, s)) c0.toArray [(0, v)] = some cs.toArray := by
    intro c0 h0
    rw [fill_cons (off := 0) (n := s) (p := cs) (by simp) hv hn (by omega), splice_whole _ _ (by omega)]
    rfl
  have hf2 : ∀ c0 : Array Value, c0.size = s → Instr.fill (fun i => some (i * s, s)) c0 [(0, v)] = some cs.toArray := fun c0 h0 => hf c0.toList (by simpa using h0)
  have h24 : ¬ (16777216 < s) := by omega
  by_cases h0 : s = 0
  · subst h0
    have := hf2 #[] rfl
    simp only [Nat.mul_zero] at this
    simp [Instr.buildSlice, run_underlying hu, sizeOf, typeInfo, hi, hsz, newRow, Array.range_zero', this]
  · have hq := hf2 (((Array.range s).map fun x => z.cells[x % z.cells.size]!)) (by simp)
    simp [Instr.buildSlice, run_underlying hu, sizeOf, typeInfo, hi, hsz, h24, h0, zeroValue, hz, newRow, hq]
theorem run_lit0 {P : Program} (w : World) {t e s : Nat} (hu : P.underlying t = some (.slice e)) (he : El P e s) :
    (Instr.buildSlice t 0 #[]).run P w = .ok (.slice (some ⟨w.heap.size, 0, none⟩) 0 0) (w.alloc (.cells #[] e)) := by
  obtain ⟨i, z, hi, hsz, hby, hz, hzs⟩ := he.info
  simp [Instr.buildSlice, run_underlying hu, sizeOf, typeInfo, hi, newRow, Instr.fill, Array.range_zero']
section
variable {P : Program} {n : Nat} {ops : Array Oper} {K : Env → World → Prop} {rest : List Oper} {ρ : Env} {w : World} {d : Option Tmp} {ty : TypeId} {ps : String} {af : Array Edge}
theorem OW_lit1 {x : Operand} {t e s : Nat} {v : Value} {enc : α → List Value} {y : α} (hx : ev ρ x = v) (hv : v.cells = (enc y).toArray) (hu : P.underlying t = some (.slice e)) (he : El P e s) (hn : ∀ y, (enc y).length = s) (hs : s ≤ 4096) (hd : dOK n d = true)
    (h : ∀ v' w', Ext w w' → Own w.heap.size w' v' e s enc [y] → OW P n ops K rest (updo ρ d v'.val) w') : OW P n ops K (⟨d, .buildSlice t 1 #[(0, x)], ty, ps, af, none⟩ :: rest) ρ w := by
  have hrun := run_lit1 (P := P) w hu he hv (hn y) hs
  refine OW_val (v := (⟨some ⟨w.heap.size, 0, none⟩, 1, 1⟩ : Sl).val) (w' := w.alloc (.cells (enc y).toArray e)) rfl ?_ hd (h _ _ (ext_alloc _ _) ?_)
  · subst hx; simp [execOp, hrun]
  · have := World.ownsRow_lit (base := w.heap.size) (e := e) (size := s) w (enc y).toArray 1 (Nat.le_refl _) (by simp [maxLen]) (by simp [hn])
    simpa [Own] using this
theorem OW_lit0 {t e s : Nat} (enc : α → List Value) (hu : P.underlying t = some (.slice e)) (he : El P e s) (hd : dOK n d = true)
    (h : ∀ v' w', Ext w w' → Own w.heap.size w' v' e s enc [] → OW P n ops K rest (updo ρ d v'.val) w') : OW P n ops K (⟨d, .buildSlice t 0 #[], ty, ps, af, none⟩ :: rest) ρ w := by
  have hrun := run_lit0 (P := P) w hu he
  refine OW_val (v := (⟨some ⟨w.heap.size, 0, none⟩, 0, 0⟩ : Sl).val) (w' := w.alloc (.cells #[] e)) rfl ?_ hd (h _ _ (ext_alloc _ _) ?_)
  · simp [execOp, hrun]
  · have := World.ownsRow_lit (base := w.heap.size) (e := e) (size := s) w #[] 0 (Nat.le_refl _) (by simp [maxLen]) (by simp)
    simpa [Own] using this
/-- 'make([]T, n)'. -/
theorem OW_make {x y : Operand} {t e s m : Nat} {k k' : IntKind} {enc : α → List Value} {z : α} (hx : ev ρ x = .int k m) (hy : ev ρ y = .int k' m) (hu : P.underlying t = some (.slice e)) (he : El P e s) {zv : Value} (hz : (P.info? e).bind (·.zero) = some zv) (hzv : zv.cells = (enc z).toArray) (hpos : 0 < s) (hm : m ≤ 100000000) (hd : dOK n d = true)
    (h : ∀ v' w', Ext w w' → Own w.heap.size w' v' e s enc (List.replicate m z) → OW P n ops K rest (updo ρ d v'.val) w') : OW P n ops K (⟨d, .makeSlice t x y, ty, ps, af, none⟩ :: rest) ρ w := by
  obtain ⟨i, z', hi, hsz, hby, hz', hzs⟩ := he.info
  have hzz : z' = zv := by rw [hi] at hz; simpa [hz'] using hz
  subst hzz
  have hb : i.bytes * m ≤ 281474976710656 := Nat.le_trans (Nat.mul_le_mul hby hm) (by decide)
  obtain ⟨w', hr, ho, hg⟩ := run_make_full (P := P) w w.heap.size t e i z' s hu hi hz' hsz k k' m hb (by simp [maxLen]; omega) (Nat.le_refl _)
  refine OW_val (v := (⟨some ⟨w.heap.size, 0, none⟩, m, m⟩ : Sl).val) (w' := w') rfl ?_ hd (h _ _ ⟨hg.os, hg.tape, hg.output, hg.size, fun k hk => hg.block k hk (by simp)⟩ ?_)
  · simp [execOp, hx, hy, hr]
  · unfold Own
    have hl : (enc z).length = s := by rw [← hzs, hzv]; simp
    have e1 : ((List.replicate m z).flatMap enc) = (madeCells z'.cells (m * s)).toList := by
      apply List.ext_getElem?
      intro j
      by_cases hj : j < m * s
      · have hjm : j / s < m := Nat.div_lt_of_lt_mul (by rw [Nat.mul_comm]; exact hj)
        have hmod : j % s < (enc z).length := by rw [hl]; exact Nat.mod_lt _ hpos
        have h1 : ((List.replicate m z).flatMap enc)[j]? = some (enc z)[j % s] := by
          have : ∀ (l : List α), (∀ x ∈ l, x = z) → ∀ i, i < l.length → (l.flatMap enc)[i * s + j % s]? = some (enc z)[j % s] := by
            intro l
            induction l with
            | nil => intro _ i hi; simp at hi
            | cons x l ih =>
              intro hall i hi
              have hx : x = z := hall x (by simp)
              subst hx
              simp only [List.flatMap_cons]
              cases i with
              | zero => simp only [Nat.zero_mul, Nat.zero_add]; rw [List.getElem?_append_left hmod, List.getElem?_eq_getElem hmod]
              | succ i =>
                rw [List.getElem?_append_right (by rw [hl, Nat.add_mul]; omega), hl, show (i + 1) * s + j % s - s = i * s + j % s by rw [Nat.add_mul]; omega]
                exact ih (fun y hy => hall y (by simp [hy])) i (by simpa using hi)
          have := this (List.replicate m z) (fun x hx => (List.mem_replicate.1 hx).2) (j / s) (by simpa using hjm)
          rwa [Nat.div_add_mod' j s] at this
        rw [h1]
        have hsz' : z'.cells.size = s := hzs
        simp only [madeCells, Array.toList_map, Array.toList_range, List.getElem?_map, List.getElem?_range hj, Option.map_some, hsz']
        rw [hzv]
        simp [hmod]
      · rw [List.getElem?_eq_none, List.getElem?_eq_none]
        · simp [madeCells]; omega
        · have : ∀ k, ((List.replicate k z).flatMap enc).length = k * s := by
            intro k; induction k with
            | zero => simp
            | succ k ih => rw [List.replicate_succ, List.flatMap_cons, List.length_append, ih, hl, Nat.add_mul]; omega
          rw [this]; omega
    rw [e1, List.length_replicate]
    exact ho
end
/-- A slice beside nil. -/
theorem r_eqlSlN {P : Program} {ρ : Env} {w : World} {d : Option Tmp} {ty yt : TypeId} {ps : String} {af : Array Edge} {g : Option (Nat × Bool)} {x y : Operand} {t e : TypeId} {v : Sl} (hu : P.underlying t = some (.slice e)) (hx : ev ρ x = v.val) (hy : ev ρ y = .slice none 0 0) :
    (execOp (ev ρ) ⟨d, .binOp .eql t x y yt, ty, ps, af, g⟩).run P w = .ok (.value (.bool v.p.isNone)) w := by
  have h1 : (binOp .eql t v.val (.slice none 0 0)).run P w = .ok (.bool v.p.isNone) w := by
    simp only [binOp]
    simp [run_equal_slice_nil w t e _ _ _ hu]
  simp [execOp, hx, hy, eqGuard, h1]
theorem r_neqSlN {P : Program} {ρ : Env} {w : World} {d : Option Tmp} {ty yt : TypeId} {ps : String} {af : Array Edge} {g : Option (Nat × Bool)} {x y : Operand} {t e : TypeId} {v : Sl} (hu : P.underlying t = some (.slice e)) (hx : ev ρ x = v.val) (hy : ev ρ y = .slice none 0 0) :
    (execOp (ev ρ) ⟨d, .binOp .neq t x y yt, ty, ps, af, g⟩).run P w = .ok (.value (.bool v.p.isSome)) w := by
  have h1 : (binOp .neq t v.val (.slice none 0 0)).run P w = .ok (.bool v.p.isSome) w := by
    rw [run_neq_slice_nil w t e v.p v.len v.cap hu]; cases v.p <;> rfl
  simp [execOp, hx, hy, eqGuard, h1]

/-! ### One element is given another value -/
def setL (xs : List Value) (o : Nat) : List Value → List Value
  | [] => xs
  | c :: cs => setL (xs.set o c) (o + 1) cs
theorem setL_len : ∀ (cs xs : List Value) (o : Nat), (setL xs o cs).length = xs.length
  | [], _, _ => rfl
  | c :: cs, xs, o => (setL_len cs _ _).trans (by simp)
theorem setL_get : ∀ (cs xs : List Value) (o j : Nat), o + cs.length ≤ xs.length → (setL xs o cs)[j]? = if o ≤ j ∧ j < o + cs.length then cs[j - o]? else xs[j]?
  | [], xs, o, j, _ => by simp [setL]; omega
  | c :: cs, xs, o, j, h => by
    simp only [List.length_cons] at h
    rw [setL, setL_get cs _ (o + 1) j (by simp; omega)]
    simp only [List.length_cons]
    by_cases h1 : o + 1 ≤ j ∧ j < o + 1 + cs.length
    · rw [if_pos h1, if_pos (by omega), show j - o = (j - (o + 1)) + 1 by omega, List.getElem?_cons_succ]
    · rw [if_neg h1]
      by_cases h2 : j = o
      · subst h2
        rw [if_pos (by omega), List.getElem?_set_self (by omega), Nat.sub_self]; rfl
      · rw [if_neg (by omega), List.getElem?_set_ne (by omega)]
theorem flatMap_set {α : Type} {enc : α → List Value} {s : Nat} (hs : ∀ x, (enc x).length = s) (hpos : 0 < s) (l : List α) (t : Nat) (y : α) (ht : t < l.length) : setL (l.flatMap enc) (t * s) (enc y) = (l.set t y).flatMap enc := by
  have hle : t * s + (enc y).length ≤ (l.flatMap enc).length := by
    rw [flatMap_len hs, hs]
    calc t * s + s = (t + 1) * s := by rw [Nat.add_mul]; omega
      _ ≤ l.length * s := Nat.mul_le_mul_right _ ht
  apply List.ext_getElem?
  intro j
  rw [setL_get _ _ _ _ hle, hs]
  by_cases hj : j < l.length * s
  · have hd : j / s < l.length := Nat.div_lt_of_lt_mul (by rw [Nat.mul_comm]; exact hj)
    have hm : j % s < s := Nat.mod_lt _ hpos
    have hdm := Nat.div_add_mod' j s
    by_cases ht' : j / s = t
    · rw [if_pos (by rw [← ht']; omega)]
      have hx : (l.set t y)[j / s]? = some y := by rw [ht', List.getElem?_set_self ht]
      have hu : (enc y)[j % s]? = some ((enc y)[j % s]'(by rw [hs]; exact hm)) := List.getElem?_eq_getElem (by rw [hs]; exact hm)
      have := flatMap_at hs (l.set t y) (j / s) y hx (j % s) _ hu
      rw [hdm] at this
      rw [this, ← hu]
      congr 1
      rw [← ht']; omega
    · have hne : ¬ (t * s ≤ j ∧ j < t * s + s) := by
        rintro ⟨h1, h2⟩
        apply ht'
        have h3 : j < (t + 1) * s := by rw [Nat.add_mul]; omega
        have a1 : t ≤ j / s := (Nat.le_div_iff_mul_le hpos).2 h1
        have a2 : j / s < t + 1 := (Nat.div_lt_iff_lt_mul hpos).2 h3
        omega
      rw [if_neg hne]
      have hx : l[j / s]? = some l[j / s] := List.getElem?_eq_getElem hd
      have hx' : (l.set t y)[j / s]? = some l[j / s] := by rw [List.getElem?_set_ne (by omega), hx]
      have hu : (enc l[j / s])[j % s]? = some ((enc l[j / s])[j % s]'(by rw [hs]; exact hm)) := List.getElem?_eq_getElem (by rw [hs]; exact hm)
      have h1 := flatMap_at hs l (j / s) _ hx (j % s) _ hu
      have h2 := flatMap_at hs (l.set t y) (j / s) _ hx' (j % s) _ hu
      rw [hdm] at h1 h2
      rw [h1, h2]
  · have hne : ¬ (t * s ≤ j ∧ j < t * s + s) := by
      rw [hs, flatMap_len hs] at hle; omega
    rw [if_neg hne, List.getElem?_eq_none (by rw [flatMap_len hs]; omega), List.getElem?_eq_none (by rw [flatMap_len hs, List.length_set]; omega)]
theorem grownBy_trans {a b c : World} {row : Option Nat} (h : a.grownBy b row) (k : b.grownBy c row) : a.grownBy c row :=
  ⟨k.os.trans h.os, k.tape.trans h.tape, k.output.trans h.output, Nat.le_trans h.size k.size, fun i hi hne => (k.block i (Nat.lt_of_lt_of_le hi h.size) hne).trans (h.block i hi hne)⟩
theorem own_setCells {base e s n g cap : Nat} : ∀ (cs xs : List Value) (o : Nat) (w : World), w.ownsRow base e s (.slice (some ⟨g, 0, none⟩) n cap) n xs →
    (w.setCells g o cs).ownsRow base e s (.slice (some ⟨g, 0, none⟩) n cap) n (setL xs o cs) ∧ w.grownBy (w.setCells g o cs) (some g)
  | [], xs, o, w, h => ⟨h, rfl, rfl, rfl, Nat.le_refl _, fun _ _ _ => rfl⟩
  | c :: cs, xs, o, w, h => by
    obtain ⟨h1, h2⟩ := World.ownsRow.stored h o c
    obtain ⟨h3, h4⟩ := own_setCells cs (xs.set o c) (o + 1) _ h1
    exact ⟨h3, grownBy_trans h2 h4⟩
theorem Own.set {α : Type} {base e s : Nat} {enc : α → List Value} {w w' : World} {v : Sl} {l : List α} (h : Own base w v e s enc l) (hs : ∀ x, (enc x).length = s) (hpos : 0 < s) {t : Nat} {y : α} (ht : t < l.length) (he : w' = w.setCells v.b (v.o + t * s) (enc y)) :
    Own base w' v e s enc (l.set t y) ∧ w.grownBy w' v.val.ownBlock := by
  have hn := h.len
  obtain ⟨p, n, c⟩ := v
  rcases h.2 with ⟨_, h2⟩ | ⟨g, cap, cur, h1, _⟩
  · omega
  · simp only [Sl.val, Value.slice.injEq] at h1
    obtain ⟨rfl, rfl, rfl⟩ := h1
    obtain ⟨h3, h4⟩ := own_setCells (enc y) (l.flatMap enc) (t * s) w h
    simp only [Sl.b, Sl.o, Option.map_some, Option.getD_some, Nat.zero_add] at he
    rw [he]
    refine ⟨?_, h4⟩
    unfold Own
    rw [List.length_set, ← flatMap_set hs hpos l t y ht]
    exact h3
/-- Its cells may be written. -/
theorem Own.there {α : Type} {base e s : Nat} {enc : α → List Value} {w : World} {v : Sl} {l : List α} (h : Own base w v e s enc l) (hs : ∀ x, (enc x).length = s) {t : Nat} (ht : t < l.length) : w.there v.b (v.o + t * s) s := by
  obtain ⟨p, n, c⟩ := v
  rcases h.2 with ⟨_, h2⟩ | ⟨g, cap, cur, h1, _, hg, hnc, _, hcs, _⟩
  · omega
  · simp only [Sl.val, Value.slice.injEq] at h1
    obtain ⟨rfl, rfl, rfl⟩ := h1
    intro j hj
    have hle : t * s + s ≤ l.length * s := by
      calc t * s + s = (t + 1) * s := by rw [Nat.add_mul]; omega
        _ ≤ l.length * s := Nat.mul_le_mul_right _ ht
    have hle2 : l.length * s ≤ c * s := Nat.mul_le_mul_right _ hnc
    simp only [Sl.b, Sl.o, Option.map_some, Option.getD_some, Nat.zero_add]
    refine ⟨?_, ?_⟩
    · rw [cell_of_row w g _ cur e (0, 0) hg, Array.getElem?_eq_getElem (by omega)]; rfl
    · simp [World.frozen?, hg]

/-! ### In a region that draws -/
theorem upd_comm (ρ : Env) {a b : Nat} (h : Nat.beq a b = false) (x y : Value) : updo (updo ρ (some a) x) (some b) y = updo (updo ρ (some b) y) (some a) x := by
  funext t
  simp only [updo, upd]
  cases h1 : Nat.beq t a with
  | false => cases Nat.beq t b <;> rfl
  | true =>
    cases h2 : Nat.beq t b with
    | false => rfl
    | true =>
      have e1 := Nat.eq_of_beq_eq_true h1
      have e2 := Nat.eq_of_beq_eq_true h2
      subst e1; subst e2
      simp at h
section
variable {P : Program} {n : Nat} {ops : Array Oper} {K : Env → World → Prop} {ρ : Env} {w : World} {S : World → Prop} {fuel : Nat} {listed listed' : Array Bool}
/-- A load and a slice of one element beside it. -/
theorem DW_loadlit (i j : Nat) {listed1 listed2 : Array Bool} {di dj ti tj e s : Nat} {tyi tyj : TypeId} {pi pj : String} {fi fj : Array Edge} {x y : Operand} {p : Addr} {vi v : Value} {α : Type} {enc : α → List Value} {z : α}
    (hi : ops[i]? = some ⟨some di, .load ti x, tyi, pi, fi, none⟩) (hj : ops[j]? = some ⟨some dj, .buildSlice tj 1 #[(0, y)], tyj, pj, fj, none⟩) (hr : Region.ready .any ops listed = [i, j])
    (hl1 : listed.setIfInBounds i true = listed1) (hl2 : listed.setIfInBounds j true = listed2) (hl3 : listed1.setIfInBounds j true = listed') (hl4 : listed2.setIfInBounds i true = listed')
    (hri : Region.ready .any ops listed1 = [j]) (hrj : Region.ready .any ops listed2 = [i]) (hne : Nat.beq di dj = false)
    (hx : ev ρ x = .pointer (some p)) (hx2 : ∀ q, ev (updo ρ (some dj) q) x = .pointer (some p)) (hy : ev ρ y = v) (hy2 : ∀ q, ev (updo ρ (some di) q) y = v)
    (hld : ∀ w', Ext w w' → Ld P w' ti p vi) (hv : v.cells = (enc z).toArray) (hu : P.underlying tj = some (.slice e)) (he : El P e s) (hn : ∀ y, (enc y).length = s) (hs : s ≤ 4096)
    (hdi : dOK n (some di) = true) (hdj : dOK n (some dj) = true) (hS : ∀ w', Ext w w' → S w')
    (h : ∀ v' w', Ext w w' → Own w.heap.size w' v' e s enc [z] → DW P n ops S K fuel listed' (updo (updo ρ (some di) vi) (some dj) v'.val) w') : DW P n ops S K (fuel + 2) listed ρ w := by
  have hrun := run_lit1 (P := P) w hu he hv (hn z) hs
  have hx1 : Ext w (w.alloc (.cells (enc z).toArray e)) := ext_alloc _ _
  refine DW_pair i j (vi := vi) (vj := (⟨some ⟨w.heap.size, 0, none⟩, 1, 1⟩ : Sl).val) (w' := w.alloc (.cells (enc z).toArray e)) hi hj hr hl1 hl2 hl3 hl4 hri hrj rfl rfl
    (r_load hx (hld _ (Ext.refl _))) ?_ ?_ (r_load (hx2 _) (hld _ hx1)) hdi hdj (upd_comm ρ hne _ _) (hS _ (Ext.refl _)) (hS _ hx1) (h _ _ hx1 ?_)
  · simp [execOp, hy2, hrun]
  · simp [execOp, hy, hrun]
  · have := World.ownsRow_lit (base := w.heap.size) (e := e) (size := s) w (enc z).toArray 1 (Nat.le_refl _) (by simp [maxLen]) (by simp [hn])
    simpa [Own] using this
theorem DW_append (i : Nat) {α : Type} {d : Option Tmp} {ty : TypeId} {ps : String} {af : Array Edge} {x y : Operand} {base t e s : Nat} {enc : α → List Value} {v u : Sl} {l m : List α} (hi : ops[i]? = some ⟨d, .call ⟨.builtin .append, #[x, y], #[t, t]⟩, ty, ps, af, none⟩) (hrd : Region.ready .any ops listed = [i]) (hl : listed.setIfInBounds i true = listed')
    (hx : ev ρ x = v.val) (hy : ev ρ y = u.val) (hu : P.underlying t = some (.slice e)) (he : El P e s) (hs : ∀ x, (enc x).length = s) (hpos : 0 < s) (h1 : ∀ x, ∀ c ∈ enc x, c.oneCell' = true)
    (hown : Own base w v e s enc l) (hr : Rd w u s enc m) (hn : l.length + m.length ≤ 100000000) (hbase : base ≤ w.heap.size) (hd : dOK n d = true) (hS : ∀ w', w.grownBy w' v.val.ownBlock → S w')
    (h : ∀ v' w', Own base w' v' e s enc (l ++ m) → w.grownBy w' v.val.ownBlock → (∀ k, v'.val.ownBlock = some k → v.val.ownBlock = some k ∨ w.heap.size ≤ k) → DW P n ops S K fuel listed' (updo ρ d v'.val) w') : DW P n ops S K (fuel + 1) listed ρ w := by
  obtain ⟨v', w', hrun, ho, hg, hf⟩ := run_append (ty := ty) hu he hs hpos h1 hown hr hn hbase
  exact DW_val i (j := 0) (d := 0) (b := true) (want := true) hi hrd hl (.inl rfl) (r_append hx hy hrun) hd (hS w' hg) (h v' w' ho hg hf)
/-- One element of an own slice is given another value: a value of one cell. -/
theorem DW_ownst1 (i : Nat) {α : Type} {d : Option Tmp} {ty : TypeId} {ps : String} {af : Array Edge} {x y : Operand} {base t e k : Nat} {enc : α → List Value} {v : Sl} {l : List α} {z : α} {val : Value} (hi : ops[i]? = some ⟨d, .store t x y, ty, ps, af, none⟩) (hrd : Region.ready .any ops listed = [i]) (hl : listed.setIfInBounds i true = listed')
    (hx : ev ρ x = .pointer (some ⟨v.b, v.o + k * 1, none⟩)) (hy : ev ρ y = val) (hz : enc z = [val]) (hi1 : (P.info? t).map (·.size) = some 1) (h1 : val.oneCell' = true)
    (hown : Own base w v e 1 enc l) (hs : ∀ x, (enc x).length = 1) (hk : k < l.length) (hd : dOK n d = true) (hS : ∀ w', w.grownBy w' v.val.ownBlock → S w')
    (h : ∀ w', Own base w' v e 1 enc (l.set k z) → w.grownBy w' v.val.ownBlock → DW P n ops S K fuel listed' (updo ρ d undef) w') : DW P n ops S K (fuel + 1) listed ρ w := by
  have ht := hown.there hs hk
  obtain ⟨hs0, hf0⟩ := ht 0 (by omega)
  obtain ⟨u, hu⟩ := Option.isSome_iff_exists.1 hs0
  have hst : St P w t ⟨v.b, v.o + k * 1, none⟩ val (w.setCell ⟨v.b, v.o + k * 1, none⟩ val) := st1 hi1 h1 (by simpa using hu) (by simpa using hf0)
  obtain ⟨ho, hg⟩ := hown.set hs (by omega) (y := z) hk (w' := w.setCell ⟨v.b, v.o + k * 1, none⟩ val) (by rw [hz]; rfl)
  exact DW_skip i (j := 0) (d := 0) (b := true) (want := true) hi hrd hl (.inl rfl) (r_store hx hy hst) hd (hS _ hg) (h _ ho hg)
end
end Go.E
