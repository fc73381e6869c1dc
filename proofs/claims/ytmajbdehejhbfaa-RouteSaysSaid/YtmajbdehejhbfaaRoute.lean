/-
  The contracts of the routes' functions.
-/
import Derived.Test.YtmajbdehejhbfaaKey
import Derived.Test.YtmajbdehejhbfaaEls
namespace Go.Proofs.Ytmajbdehejhbfaa
open Go Go.RowKit

theorem route_Nodes_ok (w : World) (b : Nat) (v : E.Sl) (ps : List Key) (hb : w.rangeAt b 0 [v.val]) (hv : E.Rd w v 16 kl ps) (hl : ps.length ≤ 1000) :
    Calls Try.prog 20 #[.pointer (some ⟨b, 0, none⟩)] w fun e w' => e = .returned (.int .i64 ((ps.length + 1 : Nat) : Int)) ∧ Ext w w' := by
  have hlen := hv.1
  refine E.calls_of_RL Try.func20 rfl Try.ntmps20 (Nat.le_of_ble_eq_true rfl) ?_
  refine E.RL_seq ?_
  refine E.RL_region ?_
  refine E.OW_val (v := .int .i64 0) rfl (E.r_assign rfl) rfl ?_
  refine E.OW_nil ?_
  refine E.nx_normal ?_
  refine E.RL_seq ?_
  refine E.RL_region ?_
  refine E.OW_val (v := .pointer (some ⟨b, 0, none⟩)) rfl (E.r_move rfl) rfl ?_
  refine E.OW_val (v := .pointer (some ⟨b, 0, none⟩)) rfl (E.r_nil rfl) rfl ?_
  refine E.OW_val (v := .pointer (some ⟨b, 0, none⟩)) rfl (E.r_field rfl fo143_0) rfl ?_
  refine E.OW_val (v := v.val) rfl (E.r_load rfl (E.ld1 Try.underlying22 rfl ((E.ext_range hb (E.Ext.refl _)) 0 _ rfl))) rfl ?_
  refine E.OW_val (v := .int .i64 ((v.len : Nat) : Int)) rfl (E.r_len Try.underlying22 rfl) rfl ?_
  refine E.OW_val (v := .int .i64 ((v.len + 1 : Nat) : Int)) rfl (E.r_add rfl rfl (by rw [E.wrap_i64 (by omega) (by omega)]; omega)) rfl ?_
  refine E.OW_val (v := .int .i64 ((v.len + 1 : Nat) : Int)) rfl (E.r_assign rfl) rfl ?_
  refine E.OW_nil ?_
  refine E.nx_normal ?_
  refine E.RL_ret ?_
  refine E.post_ret (E.res1 rfl) ?_
  exact ⟨by rw [← hlen]; rfl, (E.Ext.refl _)⟩

/-- How many of the points are at or below the key; -1: no key. -/
def cnt (k : Key) (ps : List Key) : Nat := (ps.filter fun p => decide (kcmp p k ≤ 0)).length
def ofI (ps : List Key) (k : Key) : Int := if kgood k then cnt k ps else -1
theorem cnt_snoc (k : Key) (ps : List Key) (i : Nat) (p : Key) (h : ps[i]? = some p) : cnt k (ps.take (i + 1)) = cnt k (ps.take i) + if kcmp p k ≤ 0 then 1 else 0 := by
  obtain ⟨hi, rfl⟩ := List.getElem?_eq_some_iff.1 h
  rw [List.take_succ_eq_append_getElem hi, cnt, List.filter_append, List.length_append, cnt]
  congr 1
  by_cases hk : kcmp ps[i] k ≤ 0 <;> simp [hk]
theorem cnt_le (k : Key) (ps : List Key) : cnt k ps ≤ ps.length := List.length_filter_le _ _
theorem route_Of_ok (w : World) (b : Nat) (v : E.Sl) (ps : List Key) (k : Key) (hb : w.rangeAt b 0 [v.val]) (hv : E.Rd w v 16 kl ps) (hl : ps.length ≤ 1000) :
    Calls Try.prog 22 #[.pointer (some ⟨b, 0, none⟩), kv k] w fun e w' => e = .returned (.int .i64 (ofI ps k)) ∧ Ext w w' := by
  have hlen := hv.1
  refine E.calls_of_RL Try.func22 rfl Try.ntmps22 (Nat.le_of_ble_eq_true rfl) ?_
  refine E.RL_seq ?_
  refine E.RL_region ?_
  refine E.OW_box (v := .agg (kl k).toArray) (cs := kl k) rfl rfl rfl (fun b1 w2 hb3 x4 hz5 hr6 ht7 => ?_)
  have ht8 : World.there w2 b1 0 16 := by rw [kl_len] at ht7; exact ht7
  refine E.OW_val (v := .int .i64 0) rfl (E.r_assign rfl) rfl ?_
  refine E.OW_nil ?_
  refine E.nx_normal ?_
  refine E.RL_seq ?_
  refine E.RL_seq ?_
  refine E.RL_region ?_
  refine E.OW_val (v := .agg (kl k).toArray) rfl (E.r_load rfl (E.ldk Try.underlying24 rfl (ts24.trans (congrArg some (kl_len _).symm)) (E.ext_range hr6 (E.Ext.refl _)))) rfl ?_
  refine E.OW_call rfl (E.r_call Try.func95 rfl rfl (E.args1 rfl)) rfl ((key_Good_ok w2 k).mono ?_)
  rintro _ w9 ⟨rfl, x10⟩
  refine ⟨_, rfl, ?_⟩
  have x11 := E.Ext.trans x4 x10
  refine E.OW_val (v := .bool (!(kgood k))) rfl (E.r_not rfl) rfl ?_
  refine E.OW_nil ?_
  refine E.nx_normal ?_
  refine E.RL_cond rfl (fun hg => ?_) (fun hg => ?_)
  · skip
    refine E.RL_seq ?_
    refine E.RL_region ?_
    refine E.OW_val (v := .int .i64 (-1)) rfl (E.r_assign rfl) rfl ?_
    refine E.OW_nil ?_
    refine E.nx_normal ?_
    refine E.RL_ret ?_
    refine E.nx_ret ?_
    refine E.post_ret (E.res1 rfl) ?_
    refine ⟨?_, by assumption⟩
    rw [ofI, if_neg (by simpa using hg)]; rfl
  · skip
    have hg' : kgood k = true := by simpa using hg
    refine E.RL_skip ?_
    refine E.nx_normal ?_
    refine E.RL_seq ?_
    refine E.RL_region ?_
    refine E.OW_val (v := .int .i64 0) rfl (E.r_assign rfl) rfl ?_
    refine E.OW_nil ?_
    refine E.nx_normal ?_
    refine E.RL_seq ?_
    refine E.RL_seq ?_
    refine E.RL_region ?_
    refine E.OW_val (v := .pointer (some ⟨b, 0, none⟩)) rfl (E.r_move rfl) rfl ?_
    refine E.OW_val (v := .pointer (some ⟨b, 0, none⟩)) rfl (E.r_nil rfl) rfl ?_
    refine E.OW_val (v := .pointer (some ⟨b, 0, none⟩)) rfl (E.r_field rfl fo143_0) rfl ?_
    refine E.OW_val (v := v.val) rfl (E.r_load rfl (E.ld1 Try.underlying22 rfl ((E.ext_range hb x11) 0 _ rfl))) rfl ?_
    refine E.OW_val (v := .int .i64 ((v.len : Nat) : Int)) rfl (E.r_len Try.underlying22 rfl) rfl ?_
    refine E.OW_val (v := .int .i64 0) rfl (E.r_move rfl) rfl ?_
    refine E.OW_nil ?_
    refine E.nx_normal ?_
    refine E.RL_block ?_
    refine E.RL_loopg (fun m_ (i : Nat) ρ_ w_ => m_ = ps.length - i ∧ ρ_ 3 = .pointer (some ⟨b1, 0, none⟩) ∧ ρ_ 4 = .int .i64 0 ∧ ρ_ 14 = v.val ∧ ρ_ 15 = .int .i64 ((v.len : Nat) : Int) ∧ ρ_ 16 = .int .i64 ((i : Nat) : Int) ∧ ρ_ 5 = .int .i64 ((cnt k (ps.take i) : Nat) : Int) ∧ E.Ext w9 w_ ∧ i ≤ ps.length) _ (0) ⟨rfl, rfl, rfl, rfl, rfl, rfl, rfl, (E.Ext.refl _), by omega⟩ ?_
    rintro _ i r13 w12 ⟨rfl, e3_r13, e4_r13, e14_r13, e15_r13, e16_r13, e5_r13, x14, hinv_r13⟩
    have hinv := hinv_r13
    have x15 := E.Ext.trans x11 x14
    have x16 := E.Ext.trans x10 x14
    have hc := cnt_le k (ps.take i)
    rw [List.length_take] at hc
    refine E.RL_seq ?_
    refine E.RL_region ?_
    refine E.OW_val (v := .bool (decide (((i : Nat) : Int) < ((v.len : Nat) : Int)))) rfl (E.r_lss e16_r13 e15_r13) rfl ?_
    refine E.OW_nil ?_
    refine E.nx_normal ?_
    refine E.RL_seq ?_
    refine E.RL_cond rfl (fun h1 => ?_) (fun h1 => ?_)
    · skip
      have h1' := of_decide_eq_true h1
      refine E.RL_skip ?_
      refine E.nx_normal ?_
      refine E.RL_seq ?_
      refine E.RL_block ?_
      refine E.RL_seq ?_
      refine E.RL_region ?_
      obtain ⟨y17, hy18⟩ : ∃ y, ps[i]? = some y := ⟨_, List.getElem?_eq_getElem (by first | omega | (have := hv.1; omega))⟩
      refine E.OW_val (v := .pointer (some ⟨v.b, v.o + i * 16, none⟩)) rfl (E.r_indexSl e14_r13 e16_r13 Try.underlying22 ts24 hv hy18) rfl ?_
      refine E.OW_val (v := .agg (kl y17).toArray) rfl (E.r_load rfl (E.ldk Try.underlying24 rfl (ts24.trans (congrArg some (kl_len _).symm)) (hv.at_ x15 hy18))) rfl ?_
      refine E.OW_alloc (z := .agg (kl zeroK).toArray) (cs := kl zeroK) (by kernel_rfl) rfl rfl (fun b19 w20 hb21 x22 hz23 hr24 ht25 => ?_)
      have x26 := E.Ext.trans x15 x22
      have x27 := E.Ext.trans x16 x22
      have x28 := E.Ext.trans x14 x22
      have ht29 : World.there w20 b19 0 16 := by rw [kl_len] at ht25; exact ht25
      refine E.OW_stk (cs := kl y17) rfl rfl rfl (ts24.trans (congrArg some (kl_len _).symm)) (kl_one _) (by rw [kl_len]; exact (E.ext_there ht29 (E.Ext.refl _))) rfl (fun w30 hs31 _ => ?_)
      have x32 := hs31.1 _ x26 (by first | omega | (have := x15.size; omega))
      have x33 := hs31.1 _ x27 (by first | omega | (have := x16.size; omega))
      have x34 := hs31.1 _ x28 (by first | omega | (have := x14.size; omega))
      have x35 := hs31.1 _ x22 (by first | omega | (have := (E.Ext.refl _).size; omega))
      have hr36 := hs31.2.2.1
      have ht37 := hs31.2.2.2.1 _ _ _ (E.ext_there ht29 (E.Ext.refl _))
      refine E.OW_nil ?_
      refine E.nx_normal ?_
      refine E.RL_seq ?_
      refine E.RL_region ?_
      refine E.OW_val (v := .agg (kl y17).toArray) rfl (E.r_load rfl (E.ldk Try.underlying24 rfl (ts24.trans (congrArg some (kl_len _).symm)) (E.ext_range hr36 (E.Ext.refl _)))) rfl ?_
      refine E.OW_val (v := .agg (kl k).toArray) rfl (E.r_load e3_r13 (E.ldk Try.underlying24 rfl (ts24.trans (congrArg some (kl_len _).symm)) (E.ext_range hr6 x33))) rfl ?_
      refine E.OW_call rfl (E.r_call Try.func96 rfl rfl (E.args2 rfl rfl)) rfl ((key_Cmp_ok w30 y17 k).mono ?_)
      rintro _ w38 ⟨rfl, x39⟩
      refine ⟨_, rfl, ?_⟩
      have x40 := E.Ext.trans x32 x39
      have x41 := E.Ext.trans x33 x39
      have x42 := E.Ext.trans x34 x39
      have x43 := E.Ext.trans x35 x39
      refine E.OW_val (v := .bool (decide ((kcmp y17 k) ≤ 0))) rfl (E.r_leq rfl rfl) rfl ?_
      refine E.OW_nil ?_
      refine E.nx_normal ?_
      refine E.RL_cond rfl (fun h2 => ?_) (fun h2 => ?_)
      · skip
        have h2' := of_decide_eq_true h2
        have h2c := cnt_snoc k ps i _ hy18
        rw [if_pos h2'] at h2c
        refine E.RL_region ?_
        refine E.OW_val (v := .int .i64 ((cnt k (ps.take i) : Nat) : Int)) rfl (E.r_move e5_r13) rfl ?_
        refine E.OW_val (v := .int .i64 ((cnt k (ps.take i) + 1 : Nat) : Int)) rfl (E.r_add rfl rfl (by rw [E.wrap_i64 (by omega) (by omega)]; omega)) rfl ?_
        refine E.OW_val (v := .int .i64 ((cnt k (ps.take i) + 1 : Nat) : Int)) rfl (E.r_assign rfl) rfl ?_
        refine E.OW_nil ?_
        refine E.blk_normal ?_
        refine E.nx_normal ?_
        refine E.RL_region ?_
        refine E.OW_val (v := .int .i64 ((i + 1 : Nat) : Int)) rfl (E.r_add e16_r13 rfl (by rw [E.wrap_i64 (by omega) (by omega)]; omega)) rfl ?_
        refine E.OW_val (v := .int .i64 ((i + 1 : Nat) : Int)) rfl (E.r_move rfl) rfl ?_
        refine E.OW_nil ?_
        refine E.nx_normal ?_
        rw [← h2c]
        refine ⟨_, (i + 1), ?_, rfl, e3_r13, e4_r13, e14_r13, e15_r13, rfl, rfl, x42, by omega⟩
        omega
      · skip
        have h2' := of_decide_eq_false h2
        have h2c : cnt k (ps.take (i + 1)) = cnt k (ps.take i) := by
          have h := cnt_snoc k ps i _ hy18
          rw [if_neg h2'] at h; exact h
        rw [← h2c] at e5_r13
        refine E.RL_skip ?_
        refine E.blk_normal ?_
        refine E.nx_normal ?_
        refine E.RL_region ?_
        refine E.OW_val (v := .int .i64 ((i + 1 : Nat) : Int)) rfl (E.r_add e16_r13 rfl (by rw [E.wrap_i64 (by omega) (by omega)]; omega)) rfl ?_
        refine E.OW_val (v := .int .i64 ((i + 1 : Nat) : Int)) rfl (E.r_move rfl) rfl ?_
        refine E.OW_nil ?_
        refine E.nx_normal ?_
        refine ⟨_, (i + 1), ?_, rfl, e3_r13, e4_r13, e14_r13, e15_r13, rfl, e5_r13, x42, by omega⟩
        omega
    · skip
      have h1' := of_decide_eq_false h1
      refine E.RL_exit ?_
      refine E.nx_exit ?_
      refine E.nx_exit ?_
      refine E.blk_eq ?_
      refine E.nx_normal ?_
      refine E.RL_seq ?_
      refine E.RL_region ?_
      refine E.OW_val (v := .int .i64 ((cnt k (ps.take i) : Nat) : Int)) rfl (E.r_move e5_r13) rfl ?_
      refine E.OW_val (v := .int .i64 ((cnt k (ps.take i) : Nat) : Int)) rfl (E.r_assign rfl) rfl ?_
      refine E.OW_nil ?_
      refine E.nx_normal ?_
      refine E.RL_ret ?_
      refine E.post_ret (E.res1 rfl) ?_
      refine ⟨?_, by assumption⟩
      have e : cnt k ps = cnt k (ps.take i) := by rw [List.take_of_length_le (by omega)]
      rw [ofI, if_pos hg', e]; rfl

/-- Points that a table takes: good ones, each above the one before it, seven at most. -/
def OkAt (ps : List Key) (i : Nat) : Prop := ∀ p, ps[i]? = some p → kgood p = true ∧ ∀ q, 0 < i → ps[i - 1]? = some q → kcmp q p < 0
def Okps (ps : List Key) : Prop := (∀ i, i < ps.length → OkAt ps i) ∧ ps.length ≤ 7

/-- slices.Clone of keys. -/
theorem Clone_Key_ok (w : World) (v : E.Sl) (ps : List Key) (hv : E.Rd w v 16 kl ps) (hl : ps.length ≤ 1000) :
    Calls Try.prog 97 #[v.val] w fun e w' => ∃ u, e = .returned u.val ∧ Ext w w' ∧ E.Own w.heap.size w' u 24 16 kl ps := by
  have hlen := hv.1
  refine E.calls_of_RL Try.func97 rfl Try.ntmps97 (Nat.le_of_ble_eq_true rfl) ?_
  refine E.RL_seq ?_
  refine E.RL_region ?_
  refine E.OW_val (v := .slice none 0 0) rfl (E.r_assign rfl) rfl ?_
  refine E.OW_nil ?_
  refine E.nx_normal ?_
  refine E.RL_seq ?_
  refine E.RL_seq ?_
  refine E.RL_region ?_
  refine E.OW_val (v := v.val) rfl (E.r_move rfl) rfl ?_
  refine E.OW_val (v := .bool v.p.isNone) rfl (E.r_eqlSlN Try.underlying22 rfl rfl) rfl ?_
  refine E.OW_nil ?_
  refine E.nx_normal ?_
  refine E.RL_cond rfl (fun h => ?_) (fun h => ?_)
  · skip
    refine E.RL_seq ?_
    refine E.RL_region ?_
    refine E.OW_val (v := .slice none 0 0) rfl (E.r_assign rfl) rfl ?_
    refine E.OW_nil ?_
    refine E.nx_normal ?_
    refine E.RL_ret ?_
    refine E.nx_ret ?_
    refine E.post_ret (E.res1 rfl) ?_
    refine ⟨E.Sl.nil, rfl, (E.Ext.refl _), ?_⟩
    have : ps = [] := by
      cases ps with
      | nil => rfl
      | cons x ps =>
        have hp := (hv.2 0 x rfl).1
        rw [hp] at h
        cases h
    subst this
    exact E.Own.nil _ _ _ _ _
  · skip
    refine E.RL_skip ?_
    refine E.nx_normal ?_
    refine E.RL_seq ?_
    refine E.RL_region ?_
    refine E.OW_lit0 kl Try.underlying22 el24 rfl (fun v1 w2 x3 ho4 => ?_)
    refine E.OW_val (v := v.val) rfl (E.r_move rfl) rfl ?_
    refine E.OW_append (base := w.heap.size) (enc := kl) (v := v1) (u := v) (l := ([])) (m := ps) rfl rfl Try.underlying22 el24 kl_len (by omega) kl_one (E.Own.ext ho4 (E.Ext.refl _)) (hv.ext x3) (by first | omega | (simp only [List.length_cons, List.length_nil, List.length_append, List.length_replicate]; omega)) x3.size rfl (fun v5 w6 ho7 hg8 _ => ?_)
    have x9 := E.ext_grown x3 hg8 (fun k_ hk_ => Nat.le_trans (Nat.le_refl _) (E.Own.above (E.Own.ext ho4 (E.Ext.refl _)) k_ hk_))
    refine E.OW_val (v := v5.val) rfl (E.r_assign rfl) rfl ?_
    refine E.OW_nil ?_
    refine E.nx_normal ?_
    refine E.RL_ret ?_
    refine E.post_ret (E.res1 rfl) ?_
    refine ⟨_, rfl, x9, (E.Own.ext (E.Own.mono ho7 (Nat.le_refl _)) (E.Ext.refl _))⟩

theorem route_New_ok (w : World) (v : E.Sl) (ps : List Key) (hv : E.Rd w v 16 kl ps) (hl : ps.length ≤ 1000) :
    Calls Try.prog 16 #[v.val] w fun e w' => Ext w w' ∧ ((Okps ps ∧ ∃ b u, e = .returned (.tuple #[.pointer (some ⟨b, 0, none⟩), .int .i64 0]) ∧ w'.rangeAt b 0 [u.val] ∧ E.Rd w' u 16 kl ps) ∨ (¬ Okps ps ∧ e = .returned (.tuple #[.pointer none, .int .i64 1]))) := by
  have hlen := hv.1
  refine E.calls_of_RL Try.func16 rfl Try.ntmps16 (Nat.le_of_ble_eq_true rfl) ?_
  refine E.RL_seq ?_
  refine E.RL_region ?_
  refine E.OW_val (v := .pointer none) rfl (E.r_assign rfl) rfl ?_
  refine E.OW_val (v := .int .i64 0) rfl (E.r_assign rfl) rfl ?_
  refine E.OW_nil ?_
  refine E.nx_normal ?_
  refine E.RL_seq ?_
  refine E.RL_seq ?_
  refine E.RL_region ?_
  refine E.OW_val (v := v.val) rfl (E.r_move rfl) rfl ?_
  refine E.OW_val (v := .int .i64 ((v.len : Nat) : Int)) rfl (E.r_len Try.underlying22 rfl) rfl ?_
  refine E.OW_val (v := .int .i64 0) rfl (E.r_move rfl) rfl ?_
  refine E.OW_nil ?_
  refine E.nx_normal ?_
  refine E.RL_block ?_
  refine E.RL_loopg (fun m_ (i : Nat) ρ_ w_ => m_ = ps.length - i ∧ ρ_ 0 = v.val ∧ ρ_ 6 = v.val ∧ ρ_ 7 = .int .i64 ((v.len : Nat) : Int) ∧ ρ_ 8 = .int .i64 ((i : Nat) : Int) ∧ E.Ext w w_ ∧ i ≤ ps.length ∧ ∀ j, j < i → OkAt ps j) _ (0) ⟨rfl, rfl, rfl, rfl, rfl, (E.Ext.refl _), ⟨by omega, fun j hj => by omega⟩⟩ ?_
  rintro _ i r2 w1 ⟨rfl, e0_r2, e6_r2, e7_r2, e8_r2, x3, hinv_r2⟩
  have hinv := hinv_r2
  obtain ⟨hi, hok⟩ := hinv
  refine E.RL_seq ?_
  refine E.RL_region ?_
  refine E.OW_val (v := .bool (decide (((i : Nat) : Int) < ((v.len : Nat) : Int)))) rfl (E.r_lss e8_r2 e7_r2) rfl ?_
  refine E.OW_nil ?_
  refine E.nx_normal ?_
  refine E.RL_seq ?_
  refine E.RL_cond rfl (fun h1 => ?_) (fun h1 => ?_)
  · skip
    have h1' := of_decide_eq_true h1
    refine E.RL_skip ?_
    refine E.nx_normal ?_
    refine E.RL_seq ?_
    refine E.RL_block ?_
    refine E.RL_seq ?_
    refine E.RL_region ?_
    refine E.OW_val (v := .int .i64 ((i : Nat) : Int)) rfl (E.r_move e8_r2) rfl ?_
    obtain ⟨y4, hy5⟩ : ∃ y, ps[i]? = some y := ⟨_, List.getElem?_eq_getElem (by first | omega | (have := hv.1; omega))⟩
    refine E.OW_val (v := .pointer (some ⟨v.b, v.o + i * 16, none⟩)) rfl (E.r_indexSl e6_r2 e8_r2 Try.underlying22 ts24 hv hy5) rfl ?_
    refine E.OW_val (v := .agg (kl y4).toArray) rfl (E.r_load rfl (E.ldk Try.underlying24 rfl (ts24.trans (congrArg some (kl_len _).symm)) (hv.at_ x3 hy5))) rfl ?_
    refine E.OW_alloc (z := .agg (kl zeroK).toArray) (cs := kl zeroK) (by kernel_rfl) rfl rfl (fun b6 w7 hb8 x9 hz10 hr11 ht12 => ?_)
    have x13 := E.Ext.trans x3 x9
    have ht14 : World.there w7 b6 0 16 := by rw [kl_len] at ht12; exact ht12
    refine E.OW_val (v := .int .i64 ((i : Nat) : Int)) rfl (E.r_assign rfl) rfl ?_
    refine E.OW_stk (cs := kl y4) rfl rfl rfl (ts24.trans (congrArg some (kl_len _).symm)) (kl_one _) (by rw [kl_len]; exact (E.ext_there ht14 (E.Ext.refl _))) rfl (fun w15 hs16 _ => ?_)
    have x17 := hs16.1 _ x13 (by first | omega | (have := x3.size; omega))
    have x18 := hs16.1 _ x9 (by first | omega | (have := (E.Ext.refl _).size; omega))
    have hr19 := hs16.2.2.1
    have ht20 := hs16.2.2.2.1 _ _ _ (E.ext_there ht14 (E.Ext.refl _))
    refine E.OW_nil ?_
    refine E.nx_normal ?_
    refine E.RL_seq ?_
    refine E.RL_draw (fun w_ => E.Ext w15 w_) (by kernel_rfl) (fuel := 17) (listed := #[false, false, false, false, false, false, false, false, false, false, false, false, false, false, false, false, false]) rfl rfl ?_
    obtain ⟨w21, x22e⟩ : ∃ y, y = World.drew w15 := ⟨_, rfl⟩
    rw [← x22e]
    have x22 : E.Ext w15 w21 := by rw [x22e]; exact E.Ext.drew _
    clear x22e
    have x23 := E.Ext.trans x17 x22
    have x24 := E.Ext.trans x18 x22
    refine E.DW_take 0 (v := .agg (kl y4).toArray) rfl (by kernel_rfl) (by kernel_rfl) (by kernel_rfl) (listed' := #[true, false, false, false, false, false, false, false, false, false, false, false, false, false, false, false, false]) rfl rfl x22 (fun w_ hS => E.r_load rfl (E.ldk Try.underlying24 rfl (ts24.trans (congrArg some (kl_len _).symm)) (E.ext_range hr19 hS))) rfl ?_
    refine E.DW_call 1 rfl (by kernel_rfl) (listed' := #[true, true, false, false, false, false, false, false, false, false, false, false, false, false, false, false, false]) rfl (j := 0) (d := 0) (b := true) (want := true) (.inl rfl) (E.r_call Try.func95 rfl rfl (E.args1 rfl)) rfl ((key_Good_ok w21 y4).mono ?_)
    rintro _ w25 ⟨rfl, x26⟩
    have x27 := E.Ext.trans x23 x26
    have x28 := E.Ext.trans x24 x26
    have x29 := E.Ext.trans x22 x26
    refine ⟨_, rfl, x29, ?_⟩
    refine E.DW_take 2 (v := .bool (!(kgood y4))) rfl (by kernel_rfl) (by kernel_rfl) (by kernel_rfl) (listed' := #[true, true, true, false, false, false, false, false, false, false, false, false, false, false, false, false, false]) rfl rfl x29 (fun w_ hS => E.r_not rfl) rfl ?_
    refine E.DW_take 3 (v := .bool (!(kgood y4))) rfl (by kernel_rfl) (by kernel_rfl) (by kernel_rfl) (listed' := #[true, true, true, true, false, false, false, false, false, false, false, false, false, false, false, false, false]) rfl rfl x29 (fun w_ hS => E.r_move rfl) rfl ?_
    rcases E.bool_cases (!(kgood y4)) with h2 | h2
    · skip
      refine E.DW_no 4 rfl (by kernel_rfl) (by kernel_rfl) (by kernel_rfl) (listed' := #[true, true, true, true, true, false, false, false, false, false, false, false, false, false, false, false, false]) rfl rfl rfl rfl h2 x29 rfl ?_
      refine E.DW_no 5 rfl (by kernel_rfl) (by kernel_rfl) (by kernel_rfl) (listed' := #[true, true, true, true, true, true, false, false, false, false, false, false, false, false, false, false, false]) rfl rfl rfl rfl h2 x29 rfl ?_
      refine E.DW_no 6 rfl (by kernel_rfl) (by kernel_rfl) (by kernel_rfl) (listed' := #[true, true, true, true, true, true, true, false, false, false, false, false, false, false, false, false, false]) rfl rfl rfl rfl h2 x29 rfl ?_
      refine E.DW_nou 7 rfl (by kernel_rfl) (by kernel_rfl) (by kernel_rfl) (listed' := #[true, true, true, true, true, true, true, true, false, false, false, false, false, false, false, false, false]) rfl rfl rfl rfl x29 rfl ?_
      refine E.DW_nou 8 rfl (by kernel_rfl) (by kernel_rfl) (by kernel_rfl) (listed' := #[true, true, true, true, true, true, true, true, true, false, false, false, false, false, false, false, false]) rfl rfl rfl rfl x29 rfl ?_
      refine E.DW_nou 9 rfl (by kernel_rfl) (by kernel_rfl) (by kernel_rfl) (listed' := #[true, true, true, true, true, true, true, true, true, true, false, false, false, false, false, false, false]) rfl rfl rfl rfl x29 rfl ?_
      refine E.DW_nou 10 rfl (by kernel_rfl) (by kernel_rfl) (by kernel_rfl) (listed' := #[true, true, true, true, true, true, true, true, true, true, true, false, false, false, false, false, false]) rfl rfl rfl rfl x29 rfl ?_
      refine E.DW_nou 11 rfl (by kernel_rfl) (by kernel_rfl) (by kernel_rfl) (listed' := #[true, true, true, true, true, true, true, true, true, true, true, true, false, false, false, false, false]) rfl rfl rfl rfl x29 rfl ?_
      refine E.DW_nou 12 rfl (by kernel_rfl) (by kernel_rfl) (by kernel_rfl) (listed' := #[true, true, true, true, true, true, true, true, true, true, true, true, true, false, false, false, false]) rfl rfl rfl rfl x29 rfl ?_
      refine E.DW_nou 13 rfl (by kernel_rfl) (by kernel_rfl) (by kernel_rfl) (listed' := #[true, true, true, true, true, true, true, true, true, true, true, true, true, true, false, false, false]) rfl rfl rfl rfl x29 rfl ?_
      refine E.DW_nou 14 rfl (by kernel_rfl) (by kernel_rfl) (by kernel_rfl) (listed' := #[true, true, true, true, true, true, true, true, true, true, true, true, true, true, true, false, false]) rfl rfl rfl rfl x29 rfl ?_
      refine E.DW_no 15 rfl (by kernel_rfl) (by kernel_rfl) (by kernel_rfl) (listed' := #[true, true, true, true, true, true, true, true, true, true, true, true, true, true, true, true, false]) rfl rfl rfl rfl h2 x29 rfl ?_
      refine E.DW_take 16 (v := .bool true) rfl (by kernel_rfl) (by kernel_rfl) (by kernel_rfl) (listed' := #[true, true, true, true, true, true, true, true, true, true, true, true, true, true, true, true, true]) rfl rfl x29 (fun w_ hS => E.r_pick_t rfl h2 rfl) rfl ?_
      refine E.DW_done (by kernel_rfl) ?_
      refine E.nx_normal ?_
      refine E.RL_true rfl rfl ?_
      refine E.RL_seq ?_
      refine E.RL_region ?_
      refine E.OW_val (v := .pointer none) rfl (E.r_assign rfl) rfl ?_
      refine E.OW_val (v := .int .i64 1) rfl (E.r_assign rfl) rfl ?_
      refine E.OW_nil ?_
      refine E.nx_normal ?_
      refine E.RL_ret ?_
      refine E.blk_ret ?_
      refine E.nx_ret ?_
      refine E.nx_ret ?_
      refine E.blk_ret ?_
      refine E.nx_ret ?_
      refine E.post_ret (E.res2 rfl) ?_
      refine ⟨x27, .inr ⟨fun hp => ?_, rfl⟩⟩
      have := (hp.1 i (by omega) _ hy5).1
      rw [this] at h2
      cases h2
    · skip
      have hgd : kgood y4 = true := by simpa using h2
      refine E.DW_takeg 4 (v := .int .i64 ((i : Nat) : Int)) rfl (by kernel_rfl) (by kernel_rfl) (by kernel_rfl) (listed' := #[true, true, true, true, true, false, false, false, false, false, false, false, false, false, false, false, false]) rfl rfl rfl rfl h2 x29 (fun w_ hS => E.r_move rfl) rfl ?_
      refine E.DW_takeg 5 (v := .bool (decide (0 < ((i : Nat) : Int)))) rfl (by kernel_rfl) (by kernel_rfl) (by kernel_rfl) (listed' := #[true, true, true, true, true, true, false, false, false, false, false, false, false, false, false, false, false]) rfl rfl rfl rfl h2 x29 (fun w_ hS => E.r_gtr rfl rfl) rfl ?_
      refine E.DW_takeg 6 (v := .bool (decide (0 < ((i : Nat) : Int)))) rfl (by kernel_rfl) (by kernel_rfl) (by kernel_rfl) (listed' := #[true, true, true, true, true, true, true, false, false, false, false, false, false, false, false, false, false]) rfl rfl rfl rfl h2 x29 (fun w_ hS => E.r_move rfl) rfl ?_
      rcases E.bool_cases (decide (0 < ((i : Nat) : Int))) with h3 | h3
      · skip
        have h3' := of_decide_eq_true h3
        refine E.DW_takeg 7 (v := v.val) rfl (by kernel_rfl) (by kernel_rfl) (by kernel_rfl) (listed' := #[true, true, true, true, true, true, true, true, false, false, false, false, false, false, false, false, false]) rfl rfl rfl rfl h3 x29 (fun w_ hS => E.r_move e0_r2) rfl ?_
        refine E.DW_takeg 8 (v := .int .i64 ((i : Nat) : Int)) rfl (by kernel_rfl) (by kernel_rfl) (by kernel_rfl) (listed' := #[true, true, true, true, true, true, true, true, true, false, false, false, false, false, false, false, false]) rfl rfl rfl rfl h3 x29 (fun w_ hS => E.r_move rfl) rfl ?_
        refine E.DW_takeg 9 (v := .int .i64 ((i - 1 : Nat) : Int)) rfl (by kernel_rfl) (by kernel_rfl) (by kernel_rfl) (listed' := #[true, true, true, true, true, true, true, true, true, true, false, false, false, false, false, false, false]) rfl rfl rfl rfl h3 x29 (fun w_ hS => E.r_sub rfl rfl (by rw [E.wrap_i64 (by omega) (by omega)]; omega)) rfl ?_
        obtain ⟨y30, hy31⟩ : ∃ y, ps[i - 1]? = some y := ⟨_, List.getElem?_eq_getElem (by first | omega | (have := hv.1; omega))⟩
        refine E.DW_takeg 10 (v := .pointer (some ⟨v.b, v.o + (i - 1) * 16, none⟩)) rfl (by kernel_rfl) (by kernel_rfl) (by kernel_rfl) (listed' := #[true, true, true, true, true, true, true, true, true, true, true, false, false, false, false, false, false]) rfl rfl rfl rfl h3 x29 (fun w_ hS => E.r_indexSl rfl rfl Try.underlying22 ts24 hv hy31) rfl ?_
        refine E.DW_takeg 11 (v := .agg (kl y30).toArray) rfl (by kernel_rfl) (by kernel_rfl) (by kernel_rfl) (listed' := #[true, true, true, true, true, true, true, true, true, true, true, true, false, false, false, false, false]) rfl rfl rfl rfl h3 x29 (fun w_ hS => E.r_load rfl (E.ldk Try.underlying24 rfl (ts24.trans (congrArg some (kl_len _).symm)) (hv.at_ (E.Ext.trans x17 hS) hy31))) rfl ?_
        refine E.DW_takeg 12 (v := .agg (kl y4).toArray) rfl (by kernel_rfl) (by kernel_rfl) (by kernel_rfl) (listed' := #[true, true, true, true, true, true, true, true, true, true, true, true, true, false, false, false, false]) rfl rfl rfl rfl h3 x29 (fun w_ hS => E.r_load rfl (E.ldk Try.underlying24 rfl (ts24.trans (congrArg some (kl_len _).symm)) (E.ext_range hr19 hS))) rfl ?_
        refine E.DW_call 13 rfl (by kernel_rfl) (listed' := #[true, true, true, true, true, true, true, true, true, true, true, true, true, true, false, false, false]) rfl (.inr ⟨rfl, rfl, rfl, h3⟩) (E.r_call Try.func96 rfl rfl (E.args2 rfl rfl)) rfl ((key_Cmp_ok w25 y30 y4).mono ?_)
        rintro _ w32 ⟨rfl, x33⟩
        have x34 := E.Ext.trans x27 x33
        have x35 := E.Ext.trans x28 x33
        have x36 := E.Ext.trans x29 x33
        have x37 := E.Ext.trans x26 x33
        refine ⟨_, rfl, x36, ?_⟩
        refine E.DW_takeg 14 (v := .bool (decide (0 ≤ (kcmp y30 y4)))) rfl (by kernel_rfl) (by kernel_rfl) (by kernel_rfl) (listed' := #[true, true, true, true, true, true, true, true, true, true, true, true, true, true, true, false, false]) rfl rfl rfl rfl h3 x36 (fun w_ hS => E.r_geq rfl rfl) rfl ?_
        refine E.DW_takeg 15 (v := .bool (decide (0 ≤ (kcmp y30 y4)))) rfl (by kernel_rfl) (by kernel_rfl) (by kernel_rfl) (listed' := #[true, true, true, true, true, true, true, true, true, true, true, true, true, true, true, true, false]) rfl rfl rfl rfl h2 x36 (fun w_ hS => E.r_pick_t rfl h3 rfl) rfl ?_
        refine E.DW_take 16 (v := .bool (decide (0 ≤ (kcmp y30 y4)))) rfl (by kernel_rfl) (by kernel_rfl) (by kernel_rfl) (listed' := #[true, true, true, true, true, true, true, true, true, true, true, true, true, true, true, true, true]) rfl rfl x36 (fun w_ hS => E.r_pick_f rfl h2 rfl) rfl ?_
        refine E.DW_done (by kernel_rfl) ?_
        refine E.nx_normal ?_
        refine E.RL_cond rfl (fun h4 => ?_) (fun h4 => ?_)
        · skip
          have h4' := of_decide_eq_true h4
          refine E.RL_seq ?_
          refine E.RL_region ?_
          refine E.OW_val (v := .pointer none) rfl (E.r_assign rfl) rfl ?_
          refine E.OW_val (v := .int .i64 1) rfl (E.r_assign rfl) rfl ?_
          refine E.OW_nil ?_
          refine E.nx_normal ?_
          refine E.RL_ret ?_
          refine E.blk_ret ?_
          refine E.nx_ret ?_
          refine E.nx_ret ?_
          refine E.blk_ret ?_
          refine E.nx_ret ?_
          refine E.post_ret (E.res2 rfl) ?_
          refine ⟨x34, .inr ⟨fun hp => ?_, rfl⟩⟩
          have := (hp.1 i (by omega) _ hy5).2 _ (by omega) hy31
          omega
        · skip
          have h4' := of_decide_eq_false h4
          refine E.RL_skip ?_
          refine E.blk_normal ?_
          refine E.nx_normal ?_
          refine E.RL_region ?_
          refine E.OW_val (v := .int .i64 ((i + 1 : Nat) : Int)) rfl (E.r_add e8_r2 rfl (by rw [E.wrap_i64 (by omega) (by omega)]; omega)) rfl ?_
          refine E.OW_val (v := .int .i64 ((i + 1 : Nat) : Int)) rfl (E.r_move rfl) rfl ?_
          refine E.OW_nil ?_
          refine E.nx_normal ?_
          refine ⟨_, (i + 1), ?_, rfl, e0_r2, e6_r2, e7_r2, rfl, x34, ⟨by omega, fun j hj => ?_⟩⟩
          omega
          by_cases hji : j = i
          · subst hji
            intro p hp
            rw [hy5] at hp
            cases hp
            refine ⟨hgd, fun q _ hq => ?_⟩
            rw [hy31] at hq
            cases hq
            omega
          · exact hok j (by omega)
      · skip
        have h3' := of_decide_eq_false h3
        refine E.DW_no 7 rfl (by kernel_rfl) (by kernel_rfl) (by kernel_rfl) (listed' := #[true, true, true, true, true, true, true, true, false, false, false, false, false, false, false, false, false]) rfl rfl rfl rfl h3 x29 rfl ?_
        refine E.DW_no 8 rfl (by kernel_rfl) (by kernel_rfl) (by kernel_rfl) (listed' := #[true, true, true, true, true, true, true, true, true, false, false, false, false, false, false, false, false]) rfl rfl rfl rfl h3 x29 rfl ?_
        refine E.DW_no 9 rfl (by kernel_rfl) (by kernel_rfl) (by kernel_rfl) (listed' := #[true, true, true, true, true, true, true, true, true, true, false, false, false, false, false, false, false]) rfl rfl rfl rfl h3 x29 rfl ?_
        refine E.DW_no 10 rfl (by kernel_rfl) (by kernel_rfl) (by kernel_rfl) (listed' := #[true, true, true, true, true, true, true, true, true, true, true, false, false, false, false, false, false]) rfl rfl rfl rfl h3 x29 rfl ?_
        refine E.DW_no 11 rfl (by kernel_rfl) (by kernel_rfl) (by kernel_rfl) (listed' := #[true, true, true, true, true, true, true, true, true, true, true, true, false, false, false, false, false]) rfl rfl rfl rfl h3 x29 rfl ?_
        refine E.DW_no 12 rfl (by kernel_rfl) (by kernel_rfl) (by kernel_rfl) (listed' := #[true, true, true, true, true, true, true, true, true, true, true, true, true, false, false, false, false]) rfl rfl rfl rfl h3 x29 rfl ?_
        refine E.DW_no 13 rfl (by kernel_rfl) (by kernel_rfl) (by kernel_rfl) (listed' := #[true, true, true, true, true, true, true, true, true, true, true, true, true, true, false, false, false]) rfl rfl rfl rfl h3 x29 rfl ?_
        refine E.DW_no 14 rfl (by kernel_rfl) (by kernel_rfl) (by kernel_rfl) (listed' := #[true, true, true, true, true, true, true, true, true, true, true, true, true, true, true, false, false]) rfl rfl rfl rfl h3 x29 rfl ?_
        refine E.DW_takeg 15 (v := .bool false) rfl (by kernel_rfl) (by kernel_rfl) (by kernel_rfl) (listed' := #[true, true, true, true, true, true, true, true, true, true, true, true, true, true, true, true, false]) rfl rfl rfl rfl h2 x29 (fun w_ hS => E.r_pick_f rfl h3 rfl) rfl ?_
        refine E.DW_take 16 (v := .bool false) rfl (by kernel_rfl) (by kernel_rfl) (by kernel_rfl) (listed' := #[true, true, true, true, true, true, true, true, true, true, true, true, true, true, true, true, true]) rfl rfl x29 (fun w_ hS => E.r_pick_f rfl h2 rfl) rfl ?_
        refine E.DW_done (by kernel_rfl) ?_
        refine E.nx_normal ?_
        refine E.RL_false rfl rfl ?_
        refine E.RL_skip ?_
        refine E.blk_normal ?_
        refine E.nx_normal ?_
        refine E.RL_region ?_
        refine E.OW_val (v := .int .i64 ((i + 1 : Nat) : Int)) rfl (E.r_add e8_r2 rfl (by rw [E.wrap_i64 (by omega) (by omega)]; omega)) rfl ?_
        refine E.OW_val (v := .int .i64 ((i + 1 : Nat) : Int)) rfl (E.r_move rfl) rfl ?_
        refine E.OW_nil ?_
        refine E.nx_normal ?_
        refine ⟨_, (i + 1), ?_, rfl, e0_r2, e6_r2, e7_r2, rfl, x27, ⟨by omega, fun j hj => ?_⟩⟩
        omega
        by_cases hji : j = i
        · subst hji
          intro p hp
          rw [hy5] at hp
          cases hp
          exact ⟨hgd, fun q h0 _ => by omega⟩
        · exact hok j (by omega)
  · skip
    have h1' := of_decide_eq_false h1
    have hall : ∀ j, j < ps.length → OkAt ps j := fun j hj => hok j (by omega)
    refine E.RL_exit ?_
    refine E.nx_exit ?_
    refine E.nx_exit ?_
    refine E.blk_eq ?_
    refine E.nx_normal ?_
    refine E.RL_seq ?_
    refine E.RL_seq ?_
    refine E.RL_region ?_
    refine E.OW_val (v := v.val) rfl (E.r_move e0_r2) rfl ?_
    refine E.OW_val (v := .int .i64 ((v.len : Nat) : Int)) rfl (E.r_len Try.underlying22 rfl) rfl ?_
    refine E.OW_val (v := .bool (decide (8 ≤ ((v.len : Nat) : Int)))) rfl (E.r_geq rfl rfl) rfl ?_
    refine E.OW_nil ?_
    refine E.nx_normal ?_
    refine E.RL_cond rfl (fun h5 => ?_) (fun h5 => ?_)
    · skip
      have h5' := of_decide_eq_true h5
      refine E.RL_seq ?_
      refine E.RL_region ?_
      refine E.OW_val (v := .pointer none) rfl (E.r_assign rfl) rfl ?_
      refine E.OW_val (v := .int .i64 1) rfl (E.r_assign rfl) rfl ?_
      refine E.OW_nil ?_
      refine E.nx_normal ?_
      refine E.RL_ret ?_
      refine E.nx_ret ?_
      refine E.post_ret (E.res2 rfl) ?_
      refine ⟨x3, .inr ⟨fun hp => ?_, rfl⟩⟩
      have := hp.2
      omega
    · skip
      have h5' := of_decide_eq_false h5
      refine E.RL_skip ?_
      refine E.nx_normal ?_
      refine E.RL_seq ?_
      refine E.RL_region ?_
      refine E.OW_val (v := v.val) rfl (E.r_move e0_r2) rfl ?_
      refine E.OW_call rfl (E.r_call Try.func97 rfl rfl (E.args1 rfl)) rfl ((Clone_Key_ok w1 v ps (hv.ext x3) (by omega)).mono ?_)
      rintro _ w38 ⟨q40, rfl, x39, q41⟩
      refine ⟨_, rfl, ?_⟩
      have x42 := E.Ext.trans x3 x39
      have hb43 : ∀ w_, (Instr.build 143 #[(0, q40.val)]).run Try.prog w_ = .ok (.agg ([q40.val]).toArray) w_ := fun w_ => E.run_build bl143 (by rw [E.fill_cons (off := 0) (n := 1) (p := [q40.val]) rfl rfl (by simp [kl_len]) (by simp [E.splice, kl_len])]; rw [E.fill_nil]; simp [E.splice, kl_len])
      refine E.OW_val (v := .agg ([q40.val]).toArray) rfl (E.r_build1 rfl (hb43 _)) rfl ?_
      refine E.OW_box (v := .agg ([q40.val]).toArray) (cs := [q40.val]) rfl rfl rfl (fun b44 w45 hb46 x47 hz48 hr49 ht50 => ?_)
      have x51 := E.Ext.trans x42 x47
      have x52 := E.Ext.trans x39 x47
      refine E.OW_val (v := .pointer (some ⟨b44, 0, none⟩)) rfl (E.r_assign rfl) rfl ?_
      refine E.OW_val (v := .int .i64 0) rfl (E.r_assign rfl) rfl ?_
      refine E.OW_nil ?_
      refine E.nx_normal ?_
      refine E.RL_ret ?_
      refine E.post_ret (E.res2 rfl) ?_
      exact ⟨x51, .inl ⟨⟨hall, by omega⟩, _, _, rfl, (E.ext_range hr49 (E.Ext.refl _)), (E.Rd.ext (E.Own.rd q41 kl_len) x47)⟩⟩

/-! ### The document's -/
theorem kcmp_swap (a b : Key) : kcmp a b = - kcmp b a := by
  obtain ⟨a, ha⟩ := a
  obtain ⟨b, hb⟩ := b
  simp only [kcmp]
  clear ha hb
  induction a generalizing b with
  | nil => cases b <;> simp [Lib.compareBytes]
  | cons x a ih =>
    cases b with
    | nil => simp [Lib.compareBytes]
    | cons y b =>
      simp only [Lib.compareBytes]
      by_cases h1 : x < y
      · have h2 : ¬ y < x := fun h => by rw [UInt8.lt_iff_toNat_lt] at h h1; omega
        simp [h1, h2]
      · by_cases h2 : y < x
        · simp [h1, h2]
        · simp [h1, h2, ih]
theorem ref_NewRoute_ok (w : World) (v : E.Sl) (ps : List Key) (hv : E.Rd w v 16 kl ps) (hl : ps.length ≤ 1000) :
    Calls Try.prog 17 #[v.val] w fun e w' => Ext w w' ∧ ((Okps ps ∧ ∃ b u, e = .returned (.tuple #[.pointer (some ⟨b, 0, none⟩), .bool true]) ∧ w'.rangeAt b 0 [u.val] ∧ E.Rd w' u 16 kl ps) ∨ (¬ Okps ps ∧ e = .returned (.tuple #[.pointer none, .bool false]))) := by
  have hlen := hv.1
  refine E.calls_of_RL Try.func17 rfl Try.ntmps17 (Nat.le_of_ble_eq_true rfl) ?_
  refine E.RL_seq ?_
  refine E.RL_region ?_
  refine E.OW_val (v := .pointer none) rfl (E.r_assign rfl) rfl ?_
  refine E.OW_val (v := .bool false) rfl (E.r_assign rfl) rfl ?_
  refine E.OW_nil ?_
  refine E.nx_normal ?_
  refine E.RL_seq ?_
  refine E.RL_seq ?_
  refine E.RL_region ?_
  refine E.OW_val (v := v.val) rfl (E.r_move rfl) rfl ?_
  refine E.OW_val (v := .int .i64 ((v.len : Nat) : Int)) rfl (E.r_len Try.underlying22 rfl) rfl ?_
  refine E.OW_val (v := .bool (decide (7 < ((v.len : Nat) : Int)))) rfl (E.r_gtr rfl rfl) rfl ?_
  refine E.OW_nil ?_
  refine E.nx_normal ?_
  refine E.RL_cond rfl (fun h0 => ?_) (fun h0 => ?_)
  · skip
    have h0' := of_decide_eq_true h0
    refine E.RL_seq ?_
    refine E.RL_region ?_
    refine E.OW_val (v := .pointer none) rfl (E.r_assign rfl) rfl ?_
    refine E.OW_val (v := .bool false) rfl (E.r_assign rfl) rfl ?_
    refine E.OW_nil ?_
    refine E.nx_normal ?_
    refine E.RL_ret ?_
    refine E.nx_ret ?_
    refine E.post_ret (E.res2 rfl) ?_
    refine ⟨(E.Ext.refl _), .inr ⟨fun hp => ?_, rfl⟩⟩
    have := hp.2
    omega
  · skip
    have h0' := of_decide_eq_false h0
    refine E.RL_skip ?_
    refine E.nx_normal ?_
    refine E.RL_seq ?_
    refine E.RL_seq ?_
    refine E.RL_region ?_
    refine E.OW_val (v := .int .i64 0) rfl (E.r_assign rfl) rfl ?_
    refine E.OW_nil ?_
    refine E.nx_normal ?_
    refine E.RL_block ?_
    refine E.RL_loopg (fun m_ (i : Nat) ρ_ w_ => m_ = ps.length - i ∧ ρ_ 0 = v.val ∧ ρ_ 4 = .int .i64 ((i : Nat) : Int) ∧ E.Ext w w_ ∧ i ≤ ps.length ∧ ∀ j, j < i → OkAt ps j) _ (0) ⟨rfl, rfl, rfl, (E.Ext.refl _), ⟨by omega, fun j hj => by omega⟩⟩ ?_
    rintro _ i r2 w1 ⟨rfl, e0_r2, e4_r2, x3, hinv_r2⟩
    have hinv := hinv_r2
    obtain ⟨hi, hok⟩ := hinv
    refine E.RL_seq ?_
    refine E.RL_seq ?_
    refine E.RL_region ?_
    refine E.OW_val (v := .int .i64 ((i : Nat) : Int)) rfl (E.r_move e4_r2) rfl ?_
    refine E.OW_val (v := v.val) rfl (E.r_move e0_r2) rfl ?_
    refine E.OW_val (v := .int .i64 ((v.len : Nat) : Int)) rfl (E.r_len Try.underlying22 rfl) rfl ?_
    refine E.OW_val (v := .bool (decide (((i : Nat) : Int) < ((v.len : Nat) : Int)))) rfl (E.r_lss rfl rfl) rfl ?_
    refine E.OW_nil ?_
    refine E.nx_normal ?_
    refine E.RL_cond rfl (fun h1 => ?_) (fun h1 => ?_)
    · skip
      have h1' := of_decide_eq_true h1
      refine E.RL_skip ?_
      refine E.nx_normal ?_
      refine E.RL_seq ?_
      refine E.RL_block ?_
      refine E.RL_seq ?_
      refine E.RL_draw (fun w_ => E.Ext w1 w_) (by kernel_rfl) (fuel := 23) (listed := #[false, false, false, false, false, false, false, false, false, false, false, false, false, false, false, false, false, false, false, false, false, false, false]) rfl rfl ?_
      obtain ⟨w4, x5e⟩ : ∃ y, y = World.drew w1 := ⟨_, rfl⟩
      rw [← x5e]
      have x5 : E.Ext w1 w4 := by rw [x5e]; exact E.Ext.drew _
      clear x5e
      have x6 := E.Ext.trans x3 x5
      refine E.DW_take 0 (v := v.val) rfl (by kernel_rfl) (by kernel_rfl) (by kernel_rfl) (listed' := #[true, false, false, false, false, false, false, false, false, false, false, false, false, false, false, false, false, false, false, false, false, false, false]) rfl rfl x5 (fun w_ hS => E.r_move e0_r2) rfl ?_
      refine E.DW_take 1 (v := .int .i64 ((i : Nat) : Int)) rfl (by kernel_rfl) (by kernel_rfl) (by kernel_rfl) (listed' := #[true, true, false, false, false, false, false, false, false, false, false, false, false, false, false, false, false, false, false, false, false, false, false]) rfl rfl x5 (fun w_ hS => E.r_move e4_r2) rfl ?_
      obtain ⟨y7, hy8⟩ : ∃ y, ps[i]? = some y := ⟨_, List.getElem?_eq_getElem (by first | omega | (have := hv.1; omega))⟩
      refine E.DW_take 2 (v := .pointer (some ⟨v.b, v.o + i * 16, none⟩)) rfl (by kernel_rfl) (by kernel_rfl) (by kernel_rfl) (listed' := #[true, true, true, false, false, false, false, false, false, false, false, false, false, false, false, false, false, false, false, false, false, false, false]) rfl rfl x5 (fun w_ hS => E.r_indexSl rfl rfl Try.underlying22 ts24 hv hy8) rfl ?_
      refine E.DW_take 3 (v := .agg (kl y7).toArray) rfl (by kernel_rfl) (by kernel_rfl) (by kernel_rfl) (listed' := #[true, true, true, true, false, false, false, false, false, false, false, false, false, false, false, false, false, false, false, false, false, false, false]) rfl rfl x5 (fun w_ hS => E.r_load rfl (E.ldk Try.underlying24 rfl (ts24.trans (congrArg some (kl_len _).symm)) (hv.at_ (E.Ext.trans x3 hS) hy8))) rfl ?_
      refine E.DW_call 4 rfl (by kernel_rfl) (listed' := #[true, true, true, true, true, false, false, false, false, false, false, false, false, false, false, false, false, false, false, false, false, false, false]) rfl (j := 0) (d := 0) (b := true) (want := true) (.inl rfl) (E.r_call Try.func98 rfl rfl (E.args1 rfl)) rfl ((ref_Good_ok w4 y7).mono ?_)
      rintro _ w9 ⟨rfl, x10⟩
      have x11 := E.Ext.trans x6 x10
      have x12 := E.Ext.trans x5 x10
      refine ⟨_, rfl, x12, ?_⟩
      refine E.DW_take 5 (v := .bool (!(kgood y7))) rfl (by kernel_rfl) (by kernel_rfl) (by kernel_rfl) (listed' := #[true, true, true, true, true, true, false, false, false, false, false, false, false, false, false, false, false, false, false, false, false, false, false]) rfl rfl x12 (fun w_ hS => E.r_not rfl) rfl ?_
      refine E.DW_take 6 (v := .bool (!(kgood y7))) rfl (by kernel_rfl) (by kernel_rfl) (by kernel_rfl) (listed' := #[true, true, true, true, true, true, true, false, false, false, false, false, false, false, false, false, false, false, false, false, false, false, false]) rfl rfl x12 (fun w_ hS => E.r_move rfl) rfl ?_
      rcases E.bool_cases (!(kgood y7)) with h2 | h2
      · skip
        refine E.DW_no 7 rfl (by kernel_rfl) (by kernel_rfl) (by kernel_rfl) (listed' := #[true, true, true, true, true, true, true, true, false, false, false, false, false, false, false, false, false, false, false, false, false, false, false]) rfl rfl rfl rfl h2 x12 rfl ?_
        refine E.DW_no 8 rfl (by kernel_rfl) (by kernel_rfl) (by kernel_rfl) (listed' := #[true, true, true, true, true, true, true, true, true, false, false, false, false, false, false, false, false, false, false, false, false, false, false]) rfl rfl rfl rfl h2 x12 rfl ?_
        refine E.DW_no 9 rfl (by kernel_rfl) (by kernel_rfl) (by kernel_rfl) (listed' := #[true, true, true, true, true, true, true, true, true, true, false, false, false, false, false, false, false, false, false, false, false, false, false]) rfl rfl rfl rfl h2 x12 rfl ?_
        refine E.DW_nou 10 rfl (by kernel_rfl) (by kernel_rfl) (by kernel_rfl) (listed' := #[true, true, true, true, true, true, true, true, true, true, true, false, false, false, false, false, false, false, false, false, false, false, false]) rfl rfl rfl rfl x12 rfl ?_
        refine E.DW_nou 11 rfl (by kernel_rfl) (by kernel_rfl) (by kernel_rfl) (listed' := #[true, true, true, true, true, true, true, true, true, true, true, true, false, false, false, false, false, false, false, false, false, false, false]) rfl rfl rfl rfl x12 rfl ?_
        refine E.DW_nou 12 rfl (by kernel_rfl) (by kernel_rfl) (by kernel_rfl) (listed' := #[true, true, true, true, true, true, true, true, true, true, true, true, true, false, false, false, false, false, false, false, false, false, false]) rfl rfl rfl rfl x12 rfl ?_
        refine E.DW_nou 13 rfl (by kernel_rfl) (by kernel_rfl) (by kernel_rfl) (listed' := #[true, true, true, true, true, true, true, true, true, true, true, true, true, true, false, false, false, false, false, false, false, false, false]) rfl rfl rfl rfl x12 rfl ?_
        refine E.DW_nou 14 rfl (by kernel_rfl) (by kernel_rfl) (by kernel_rfl) (listed' := #[true, true, true, true, true, true, true, true, true, true, true, true, true, true, true, false, false, false, false, false, false, false, false]) rfl rfl rfl rfl x12 rfl ?_
        refine E.DW_nou 15 rfl (by kernel_rfl) (by kernel_rfl) (by kernel_rfl) (listed' := #[true, true, true, true, true, true, true, true, true, true, true, true, true, true, true, true, false, false, false, false, false, false, false]) rfl rfl rfl rfl x12 rfl ?_
        refine E.DW_nou 16 rfl (by kernel_rfl) (by kernel_rfl) (by kernel_rfl) (listed' := #[true, true, true, true, true, true, true, true, true, true, true, true, true, true, true, true, true, false, false, false, false, false, false]) rfl rfl rfl rfl x12 rfl ?_
        refine E.DW_nou 17 rfl (by kernel_rfl) (by kernel_rfl) (by kernel_rfl) (listed' := #[true, true, true, true, true, true, true, true, true, true, true, true, true, true, true, true, true, true, false, false, false, false, false]) rfl rfl rfl rfl x12 rfl ?_
        refine E.DW_nou 18 rfl (by kernel_rfl) (by kernel_rfl) (by kernel_rfl) (listed' := #[true, true, true, true, true, true, true, true, true, true, true, true, true, true, true, true, true, true, true, false, false, false, false]) rfl rfl rfl rfl x12 rfl ?_
        refine E.DW_nou 19 rfl (by kernel_rfl) (by kernel_rfl) (by kernel_rfl) (listed' := #[true, true, true, true, true, true, true, true, true, true, true, true, true, true, true, true, true, true, true, true, false, false, false]) rfl rfl rfl rfl x12 rfl ?_
        refine E.DW_nou 20 rfl (by kernel_rfl) (by kernel_rfl) (by kernel_rfl) (listed' := #[true, true, true, true, true, true, true, true, true, true, true, true, true, true, true, true, true, true, true, true, true, false, false]) rfl rfl rfl rfl x12 rfl ?_
        refine E.DW_no 21 rfl (by kernel_rfl) (by kernel_rfl) (by kernel_rfl) (listed' := #[true, true, true, true, true, true, true, true, true, true, true, true, true, true, true, true, true, true, true, true, true, true, false]) rfl rfl rfl rfl h2 x12 rfl ?_
        refine E.DW_take 22 (v := .bool true) rfl (by kernel_rfl) (by kernel_rfl) (by kernel_rfl) (listed' := #[true, true, true, true, true, true, true, true, true, true, true, true, true, true, true, true, true, true, true, true, true, true, true]) rfl rfl x12 (fun w_ hS => E.r_pick_t rfl h2 rfl) rfl ?_
        refine E.DW_done (by kernel_rfl) ?_
        refine E.nx_normal ?_
        refine E.RL_true rfl rfl ?_
        refine E.RL_seq ?_
        refine E.RL_region ?_
        refine E.OW_val (v := .pointer none) rfl (E.r_assign rfl) rfl ?_
        refine E.OW_val (v := .bool false) rfl (E.r_assign rfl) rfl ?_
        refine E.OW_nil ?_
        refine E.nx_normal ?_
        refine E.RL_ret ?_
        refine E.blk_ret ?_
        refine E.nx_ret ?_
        refine E.nx_ret ?_
        refine E.blk_ret ?_
        refine E.nx_ret ?_
        refine E.post_ret (E.res2 rfl) ?_
        refine ⟨x11, .inr ⟨fun hp => ?_, rfl⟩⟩
        have := (hp.1 i (by omega) _ hy8).1
        rw [this] at h2
        cases h2
      · skip
        have hgd : kgood y7 = true := by simpa using h2
        refine E.DW_takeg 7 (v := .int .i64 ((i : Nat) : Int)) rfl (by kernel_rfl) (by kernel_rfl) (by kernel_rfl) (listed' := #[true, true, true, true, true, true, true, true, false, false, false, false, false, false, false, false, false, false, false, false, false, false, false]) rfl rfl rfl rfl h2 x12 (fun w_ hS => E.r_move e4_r2) rfl ?_
        refine E.DW_takeg 8 (v := .bool (decide (0 < ((i : Nat) : Int)))) rfl (by kernel_rfl) (by kernel_rfl) (by kernel_rfl) (listed' := #[true, true, true, true, true, true, true, true, true, false, false, false, false, false, false, false, false, false, false, false, false, false, false]) rfl rfl rfl rfl h2 x12 (fun w_ hS => E.r_gtr rfl rfl) rfl ?_
        refine E.DW_takeg 9 (v := .bool (decide (0 < ((i : Nat) : Int)))) rfl (by kernel_rfl) (by kernel_rfl) (by kernel_rfl) (listed' := #[true, true, true, true, true, true, true, true, true, true, false, false, false, false, false, false, false, false, false, false, false, false, false]) rfl rfl rfl rfl h2 x12 (fun w_ hS => E.r_move rfl) rfl ?_
        rcases E.bool_cases (decide (0 < ((i : Nat) : Int))) with h3 | h3
        · skip
          have h3' := of_decide_eq_true h3
          refine E.DW_takeg 10 (v := v.val) rfl (by kernel_rfl) (by kernel_rfl) (by kernel_rfl) (listed' := #[true, true, true, true, true, true, true, true, true, true, true, false, false, false, false, false, false, false, false, false, false, false, false]) rfl rfl rfl rfl h3 x12 (fun w_ hS => E.r_move e0_r2) rfl ?_
          refine E.DW_takeg 11 (v := .int .i64 ((i : Nat) : Int)) rfl (by kernel_rfl) (by kernel_rfl) (by kernel_rfl) (listed' := #[true, true, true, true, true, true, true, true, true, true, true, true, false, false, false, false, false, false, false, false, false, false, false]) rfl rfl rfl rfl h3 x12 (fun w_ hS => E.r_move e4_r2) rfl ?_
          refine E.DW_takeg 12 (v := .pointer (some ⟨v.b, v.o + i * 16, none⟩)) rfl (by kernel_rfl) (by kernel_rfl) (by kernel_rfl) (listed' := #[true, true, true, true, true, true, true, true, true, true, true, true, true, false, false, false, false, false, false, false, false, false, false]) rfl rfl rfl rfl h3 x12 (fun w_ hS => E.r_indexSl rfl rfl Try.underlying22 ts24 hv hy8) rfl ?_
          refine E.DW_takeg 13 (v := .agg (kl y7).toArray) rfl (by kernel_rfl) (by kernel_rfl) (by kernel_rfl) (listed' := #[true, true, true, true, true, true, true, true, true, true, true, true, true, true, false, false, false, false, false, false, false, false, false]) rfl rfl rfl rfl h3 x12 (fun w_ hS => E.r_load rfl (E.ldk Try.underlying24 rfl (ts24.trans (congrArg some (kl_len _).symm)) (hv.at_ (E.Ext.trans x3 hS) hy8))) rfl ?_
          refine E.DW_takeg 14 (v := v.val) rfl (by kernel_rfl) (by kernel_rfl) (by kernel_rfl) (listed' := #[true, true, true, true, true, true, true, true, true, true, true, true, true, true, true, false, false, false, false, false, false, false, false]) rfl rfl rfl rfl h3 x12 (fun w_ hS => E.r_move e0_r2) rfl ?_
          refine E.DW_takeg 15 (v := .int .i64 ((i : Nat) : Int)) rfl (by kernel_rfl) (by kernel_rfl) (by kernel_rfl) (listed' := #[true, true, true, true, true, true, true, true, true, true, true, true, true, true, true, true, false, false, false, false, false, false, false]) rfl rfl rfl rfl h3 x12 (fun w_ hS => E.r_move e4_r2) rfl ?_
          refine E.DW_takeg 16 (v := .int .i64 ((i - 1 : Nat) : Int)) rfl (by kernel_rfl) (by kernel_rfl) (by kernel_rfl) (listed' := #[true, true, true, true, true, true, true, true, true, true, true, true, true, true, true, true, true, false, false, false, false, false, false]) rfl rfl rfl rfl h3 x12 (fun w_ hS => E.r_sub rfl rfl (by rw [E.wrap_i64 (by omega) (by omega)]; omega)) rfl ?_
          obtain ⟨y13, hy14⟩ : ∃ y, ps[i - 1]? = some y := ⟨_, List.getElem?_eq_getElem (by first | omega | (have := hv.1; omega))⟩
          refine E.DW_takeg 17 (v := .pointer (some ⟨v.b, v.o + (i - 1) * 16, none⟩)) rfl (by kernel_rfl) (by kernel_rfl) (by kernel_rfl) (listed' := #[true, true, true, true, true, true, true, true, true, true, true, true, true, true, true, true, true, true, false, false, false, false, false]) rfl rfl rfl rfl h3 x12 (fun w_ hS => E.r_indexSl rfl rfl Try.underlying22 ts24 hv hy14) rfl ?_
          refine E.DW_takeg 18 (v := .agg (kl y13).toArray) rfl (by kernel_rfl) (by kernel_rfl) (by kernel_rfl) (listed' := #[true, true, true, true, true, true, true, true, true, true, true, true, true, true, true, true, true, true, true, false, false, false, false]) rfl rfl rfl rfl h3 x12 (fun w_ hS => E.r_load rfl (E.ldk Try.underlying24 rfl (ts24.trans (congrArg some (kl_len _).symm)) (hv.at_ (E.Ext.trans x3 hS) hy14))) rfl ?_
          refine E.DW_call 19 rfl (by kernel_rfl) (listed' := #[true, true, true, true, true, true, true, true, true, true, true, true, true, true, true, true, true, true, true, true, false, false, false]) rfl (.inr ⟨rfl, rfl, rfl, h3⟩) (E.r_call Try.func99 rfl rfl (E.args2 rfl rfl)) rfl ((ref_Cmp_ok w9 y7 y13).mono ?_)
          rintro _ w15 ⟨rfl, x16⟩
          have x17 := E.Ext.trans x11 x16
          have x18 := E.Ext.trans x12 x16
          have x19 := E.Ext.trans x10 x16
          refine ⟨_, rfl, x18, ?_⟩
          refine E.DW_takeg 20 (v := .bool (decide ((kcmp y7 y13) ≤ 0))) rfl (by kernel_rfl) (by kernel_rfl) (by kernel_rfl) (listed' := #[true, true, true, true, true, true, true, true, true, true, true, true, true, true, true, true, true, true, true, true, true, false, false]) rfl rfl rfl rfl h3 x18 (fun w_ hS => E.r_leq rfl rfl) rfl ?_
          refine E.DW_takeg 21 (v := .bool (decide ((kcmp y7 y13) ≤ 0))) rfl (by kernel_rfl) (by kernel_rfl) (by kernel_rfl) (listed' := #[true, true, true, true, true, true, true, true, true, true, true, true, true, true, true, true, true, true, true, true, true, true, false]) rfl rfl rfl rfl h2 x18 (fun w_ hS => E.r_pick_t rfl h3 rfl) rfl ?_
          refine E.DW_take 22 (v := .bool (decide ((kcmp y7 y13) ≤ 0))) rfl (by kernel_rfl) (by kernel_rfl) (by kernel_rfl) (listed' := #[true, true, true, true, true, true, true, true, true, true, true, true, true, true, true, true, true, true, true, true, true, true, true]) rfl rfl x18 (fun w_ hS => E.r_pick_f rfl h2 rfl) rfl ?_
          refine E.DW_done (by kernel_rfl) ?_
          refine E.nx_normal ?_
          have hsw := kcmp_swap y7 y13
          refine E.RL_cond rfl (fun h4 => ?_) (fun h4 => ?_)
          · skip
            have h4' := of_decide_eq_true h4
            refine E.RL_seq ?_
            refine E.RL_region ?_
            refine E.OW_val (v := .pointer none) rfl (E.r_assign rfl) rfl ?_
            refine E.OW_val (v := .bool false) rfl (E.r_assign rfl) rfl ?_
            refine E.OW_nil ?_
            refine E.nx_normal ?_
            refine E.RL_ret ?_
            refine E.blk_ret ?_
            refine E.nx_ret ?_
            refine E.nx_ret ?_
            refine E.blk_ret ?_
            refine E.nx_ret ?_
            refine E.post_ret (E.res2 rfl) ?_
            refine ⟨x17, .inr ⟨fun hp => ?_, rfl⟩⟩
            have := (hp.1 i (by omega) _ hy8).2 _ (by omega) hy14
            omega
          · skip
            have h4' := of_decide_eq_false h4
            refine E.RL_skip ?_
            refine E.blk_normal ?_
            refine E.nx_normal ?_
            refine E.RL_region ?_
            refine E.OW_val (v := .int .i64 ((i : Nat) : Int)) rfl (E.r_move e4_r2) rfl ?_
            refine E.OW_val (v := .int .i64 ((i + 1 : Nat) : Int)) rfl (E.r_add rfl rfl (by rw [E.wrap_i64 (by omega) (by omega)]; omega)) rfl ?_
            refine E.OW_val (v := .int .i64 ((i + 1 : Nat) : Int)) rfl (E.r_assign rfl) rfl ?_
            refine E.OW_nil ?_
            refine E.nx_normal ?_
            refine ⟨_, (i + 1), ?_, rfl, e0_r2, rfl, x17, ⟨by omega, fun j hj => ?_⟩⟩
            omega
            by_cases hji : j = i
            · subst hji
              intro p hp
              rw [hy8] at hp
              cases hp
              refine ⟨hgd, fun q _ hq => ?_⟩
              rw [hy14] at hq
              cases hq
              omega
            · exact hok j (by omega)
        · skip
          have h3' := of_decide_eq_false h3
          refine E.DW_no 10 rfl (by kernel_rfl) (by kernel_rfl) (by kernel_rfl) (listed' := #[true, true, true, true, true, true, true, true, true, true, true, false, false, false, false, false, false, false, false, false, false, false, false]) rfl rfl rfl rfl h3 x12 rfl ?_
          refine E.DW_no 11 rfl (by kernel_rfl) (by kernel_rfl) (by kernel_rfl) (listed' := #[true, true, true, true, true, true, true, true, true, true, true, true, false, false, false, false, false, false, false, false, false, false, false]) rfl rfl rfl rfl h3 x12 rfl ?_
          refine E.DW_no 12 rfl (by kernel_rfl) (by kernel_rfl) (by kernel_rfl) (listed' := #[true, true, true, true, true, true, true, true, true, true, true, true, true, false, false, false, false, false, false, false, false, false, false]) rfl rfl rfl rfl h3 x12 rfl ?_
          refine E.DW_no 13 rfl (by kernel_rfl) (by kernel_rfl) (by kernel_rfl) (listed' := #[true, true, true, true, true, true, true, true, true, true, true, true, true, true, false, false, false, false, false, false, false, false, false]) rfl rfl rfl rfl h3 x12 rfl ?_
          refine E.DW_no 14 rfl (by kernel_rfl) (by kernel_rfl) (by kernel_rfl) (listed' := #[true, true, true, true, true, true, true, true, true, true, true, true, true, true, true, false, false, false, false, false, false, false, false]) rfl rfl rfl rfl h3 x12 rfl ?_
          refine E.DW_no 15 rfl (by kernel_rfl) (by kernel_rfl) (by kernel_rfl) (listed' := #[true, true, true, true, true, true, true, true, true, true, true, true, true, true, true, true, false, false, false, false, false, false, false]) rfl rfl rfl rfl h3 x12 rfl ?_
          refine E.DW_no 16 rfl (by kernel_rfl) (by kernel_rfl) (by kernel_rfl) (listed' := #[true, true, true, true, true, true, true, true, true, true, true, true, true, true, true, true, true, false, false, false, false, false, false]) rfl rfl rfl rfl h3 x12 rfl ?_
          refine E.DW_no 17 rfl (by kernel_rfl) (by kernel_rfl) (by kernel_rfl) (listed' := #[true, true, true, true, true, true, true, true, true, true, true, true, true, true, true, true, true, true, false, false, false, false, false]) rfl rfl rfl rfl h3 x12 rfl ?_
          refine E.DW_no 18 rfl (by kernel_rfl) (by kernel_rfl) (by kernel_rfl) (listed' := #[true, true, true, true, true, true, true, true, true, true, true, true, true, true, true, true, true, true, true, false, false, false, false]) rfl rfl rfl rfl h3 x12 rfl ?_
          refine E.DW_no 19 rfl (by kernel_rfl) (by kernel_rfl) (by kernel_rfl) (listed' := #[true, true, true, true, true, true, true, true, true, true, true, true, true, true, true, true, true, true, true, true, false, false, false]) rfl rfl rfl rfl h3 x12 rfl ?_
          refine E.DW_no 20 rfl (by kernel_rfl) (by kernel_rfl) (by kernel_rfl) (listed' := #[true, true, true, true, true, true, true, true, true, true, true, true, true, true, true, true, true, true, true, true, true, false, false]) rfl rfl rfl rfl h3 x12 rfl ?_
          refine E.DW_takeg 21 (v := .bool false) rfl (by kernel_rfl) (by kernel_rfl) (by kernel_rfl) (listed' := #[true, true, true, true, true, true, true, true, true, true, true, true, true, true, true, true, true, true, true, true, true, true, false]) rfl rfl rfl rfl h2 x12 (fun w_ hS => E.r_pick_f rfl h3 rfl) rfl ?_
          refine E.DW_take 22 (v := .bool false) rfl (by kernel_rfl) (by kernel_rfl) (by kernel_rfl) (listed' := #[true, true, true, true, true, true, true, true, true, true, true, true, true, true, true, true, true, true, true, true, true, true, true]) rfl rfl x12 (fun w_ hS => E.r_pick_f rfl h2 rfl) rfl ?_
          refine E.DW_done (by kernel_rfl) ?_
          refine E.nx_normal ?_
          refine E.RL_false rfl rfl ?_
          refine E.RL_skip ?_
          refine E.blk_normal ?_
          refine E.nx_normal ?_
          refine E.RL_region ?_
          refine E.OW_val (v := .int .i64 ((i : Nat) : Int)) rfl (E.r_move e4_r2) rfl ?_
          refine E.OW_val (v := .int .i64 ((i + 1 : Nat) : Int)) rfl (E.r_add rfl rfl (by rw [E.wrap_i64 (by omega) (by omega)]; omega)) rfl ?_
          refine E.OW_val (v := .int .i64 ((i + 1 : Nat) : Int)) rfl (E.r_assign rfl) rfl ?_
          refine E.OW_nil ?_
          refine E.nx_normal ?_
          refine ⟨_, (i + 1), ?_, rfl, e0_r2, rfl, x11, ⟨by omega, fun j hj => ?_⟩⟩
          omega
          by_cases hji : j = i
          · subst hji
            intro p hp
            rw [hy8] at hp
            cases hp
            exact ⟨hgd, fun q h0 _ => by omega⟩
          · exact hok j (by omega)
    · skip
      have h1' := of_decide_eq_false h1
      have hall : ∀ j, j < ps.length → OkAt ps j := fun j hj => hok j (by omega)
      refine E.RL_exit ?_
      refine E.nx_exit ?_
      refine E.nx_exit ?_
      refine E.blk_eq ?_
      refine E.nx_normal ?_
      refine E.RL_seq ?_
      refine E.RL_region ?_
      refine E.OW_lit0 kl Try.underlying22 el24 rfl (fun v20 w21 x22 ho23 => ?_)
      have x24 := E.Ext.trans x3 x22
      refine E.OW_val (v := v.val) rfl (E.r_move e0_r2) rfl ?_
      refine E.OW_append (base := w1.heap.size) (enc := kl) (v := v20) (u := v) (l := ([])) (m := ps) rfl rfl Try.underlying22 el24 kl_len (by omega) kl_one (E.Own.ext ho23 (E.Ext.refl _)) (hv.ext x24) (by first | omega | (simp only [List.length_cons, List.length_nil, List.length_append, List.length_replicate]; omega)) x22.size rfl (fun v25 w26 ho27 hg28 _ => ?_)
      have x29 := E.ext_grown x24 hg28 (fun k_ hk_ => Nat.le_trans (x3.size) (E.Own.above (E.Own.ext ho23 (E.Ext.refl _)) k_ hk_))
      have x30 := E.ext_grown x22 hg28 (fun k_ hk_ => Nat.le_trans (Nat.le_refl _) (E.Own.above (E.Own.ext ho23 (E.Ext.refl _)) k_ hk_))
      have hb31 : ∀ w_, (Instr.build 145 #[(0, v25.val)]).run Try.prog w_ = .ok (.agg ([v25.val]).toArray) w_ := fun w_ => E.run_build bl145 (by rw [E.fill_cons (off := 0) (n := 1) (p := [v25.val]) rfl rfl (by simp [kl_len]) (by simp [E.splice, kl_len])]; rw [E.fill_nil]; simp [E.splice, kl_len])
      refine E.OW_val (v := .agg ([v25.val]).toArray) rfl (E.r_build1 rfl (hb31 _)) rfl ?_
      refine E.OW_box (v := .agg ([v25.val]).toArray) (cs := [v25.val]) rfl rfl rfl (fun b32 w33 hb34 x35 hz36 hr37 ht38 => ?_)
      have x39 := E.Ext.trans x29 x35
      have x40 := E.Ext.trans x30 x35
      refine E.OW_val (v := .pointer (some ⟨b32, 0, none⟩)) rfl (E.r_assign rfl) rfl ?_
      refine E.OW_val (v := .bool true) rfl (E.r_assign rfl) rfl ?_
      refine E.OW_nil ?_
      refine E.nx_normal ?_
      refine E.RL_ret ?_
      refine E.post_ret (E.res2 rfl) ?_
      exact ⟨x39, .inl ⟨⟨hall, by omega⟩, _, _, rfl, (E.ext_range hr37 (E.Ext.refl _)), (E.Rd.ext (E.Own.rd ho27 kl_len) x35)⟩⟩

/-- The first point above the key: its place. -/
def rcnt (k : Key) (ps : List Key) : Nat := (ps.takeWhile fun p => decide (kcmp p k ≤ 0)).length
def rofI (ps : List Key) (k : Key) : Int := if kgood k then rcnt k ps else -1
theorem takeWhile_stop {α : Type} {p : α → Bool} : ∀ {l : List α} {i : Nat}, (∀ j x, j < i → l[j]? = some x → p x = true) → (∀ x, l[i]? = some x → p x = false) → i ≤ l.length → (l.takeWhile p).length = i
  | [], i, _, _, h => by simp at h; simp [h]
  | x :: l, 0, _, h, _ => by simp [h x rfl]
  | x :: l, i + 1, h1, h2, h3 => by
    rw [List.takeWhile_cons_of_pos (h1 0 x (by omega) rfl), List.length_cons, takeWhile_stop (fun j y hj hy => h1 (j + 1) y (by omega) hy) (fun y hy => h2 y hy) (by simpa using h3)]
theorem rroute_Of_ok (w : World) (b : Nat) (v : E.Sl) (ps : List Key) (k : Key) (hb : w.rangeAt b 0 [v.val]) (hv : E.Rd w v 16 kl ps) (hl : ps.length ≤ 1000) :
    Calls Try.prog 23 #[.pointer (some ⟨b, 0, none⟩), kv k] w fun e w' => e = .returned (.int .i64 (rofI ps k)) ∧ Ext w w' := by
  have hlen := hv.1
  refine E.calls_of_RL Try.func23 rfl Try.ntmps23 (Nat.le_of_ble_eq_true rfl) ?_
  refine E.RL_seq ?_
  refine E.RL_region ?_
  refine E.OW_box (v := .agg (kl k).toArray) (cs := kl k) rfl rfl rfl (fun b1 w2 hb3 x4 hz5 hr6 ht7 => ?_)
  have ht8 : World.there w2 b1 0 16 := by rw [kl_len] at ht7; exact ht7
  refine E.OW_val (v := .int .i64 0) rfl (E.r_assign rfl) rfl ?_
  refine E.OW_nil ?_
  refine E.nx_normal ?_
  refine E.RL_seq ?_
  refine E.RL_seq ?_
  refine E.RL_region ?_
  refine E.OW_val (v := .agg (kl k).toArray) rfl (E.r_load rfl (E.ldk Try.underlying24 rfl (ts24.trans (congrArg some (kl_len _).symm)) (E.ext_range hr6 (E.Ext.refl _)))) rfl ?_
  refine E.OW_call rfl (E.r_call Try.func98 rfl rfl (E.args1 rfl)) rfl ((ref_Good_ok w2 k).mono ?_)
  rintro _ w9 ⟨rfl, x10⟩
  refine ⟨_, rfl, ?_⟩
  have x11 := E.Ext.trans x4 x10
  refine E.OW_val (v := .bool (!(kgood k))) rfl (E.r_not rfl) rfl ?_
  refine E.OW_nil ?_
  refine E.nx_normal ?_
  refine E.RL_cond rfl (fun hg => ?_) (fun hg => ?_)
  · skip
    refine E.RL_seq ?_
    refine E.RL_region ?_
    refine E.OW_val (v := .int .i64 (-1)) rfl (E.r_assign rfl) rfl ?_
    refine E.OW_nil ?_
    refine E.nx_normal ?_
    refine E.RL_ret ?_
    refine E.nx_ret ?_
    refine E.post_ret (E.res1 rfl) ?_
    refine ⟨?_, by assumption⟩
    rw [rofI, if_neg (by simpa using hg)]; rfl
  · skip
    have hg' : kgood k = true := by simpa using hg
    refine E.RL_skip ?_
    refine E.nx_normal ?_
    refine E.RL_seq ?_
    refine E.RL_region ?_
    refine E.OW_val (v := .int .i64 0) rfl (E.r_assign rfl) rfl ?_
    refine E.OW_nil ?_
    refine E.nx_normal ?_
    refine E.RL_seq ?_
    refine E.RL_block ?_
    refine E.RL_loopg (fun m_ (i : Nat) ρ_ w_ => m_ = ps.length - i ∧ ρ_ 0 = .pointer (some ⟨b, 0, none⟩) ∧ ρ_ 3 = .pointer (some ⟨b1, 0, none⟩) ∧ ρ_ 4 = .int .i64 0 ∧ ρ_ 5 = .int .i64 ((i : Nat) : Int) ∧ E.Ext w9 w_ ∧ i ≤ ps.length ∧ ∀ j x, j < i → ps[j]? = some x → decide (kcmp x k ≤ 0) = true) _ (0) ⟨rfl, rfl, rfl, rfl, rfl, (E.Ext.refl _), ⟨by omega, fun j x hj => by omega⟩⟩ ?_
    rintro _ i r13 w12 ⟨rfl, e0_r13, e3_r13, e4_r13, e5_r13, x14, hinv_r13⟩
    have hinv := hinv_r13
    have x15 := E.Ext.trans x11 x14
    have x16 := E.Ext.trans x10 x14
    obtain ⟨hi, hall⟩ := hinv
    refine E.RL_seq ?_
    refine E.RL_seq ?_
    refine E.RL_draw (fun w_ => E.Ext w12 w_) (by kernel_rfl) (fuel := 19) (listed := #[false, false, false, false, false, false, false, false, false, false, false, false, false, false, false, false, false, false, false]) rfl rfl ?_
    obtain ⟨w17, x18e⟩ : ∃ y, y = World.drew w12 := ⟨_, rfl⟩
    rw [← x18e]
    have x18 : E.Ext w12 w17 := by rw [x18e]; exact E.Ext.drew _
    clear x18e
    have x19 := E.Ext.trans x15 x18
    have x20 := E.Ext.trans x16 x18
    have x21 := E.Ext.trans x14 x18
    refine E.DW_take 0 (v := .int .i64 ((i : Nat) : Int)) rfl (by kernel_rfl) (by kernel_rfl) (by kernel_rfl) (listed' := #[true, false, false, false, false, false, false, false, false, false, false, false, false, false, false, false, false, false, false]) rfl rfl x18 (fun w_ hS => E.r_move e5_r13) rfl ?_
    refine E.DW_take 1 (v := .pointer (some ⟨b, 0, none⟩)) rfl (by kernel_rfl) (by kernel_rfl) (by kernel_rfl) (listed' := #[true, true, false, false, false, false, false, false, false, false, false, false, false, false, false, false, false, false, false]) rfl rfl x18 (fun w_ hS => E.r_move e0_r13) rfl ?_
    refine E.DW_take 2 (v := .pointer (some ⟨b, 0, none⟩)) rfl (by kernel_rfl) (by kernel_rfl) (by kernel_rfl) (listed' := #[true, true, true, false, false, false, false, false, false, false, false, false, false, false, false, false, false, false, false]) rfl rfl x18 (fun w_ hS => E.r_nil rfl) rfl ?_
    refine E.DW_take 3 (v := .pointer (some ⟨b, 0, none⟩)) rfl (by kernel_rfl) (by kernel_rfl) (by kernel_rfl) (listed' := #[true, true, true, true, false, false, false, false, false, false, false, false, false, false, false, false, false, false, false]) rfl rfl x18 (fun w_ hS => E.r_field rfl fo145_0) rfl ?_
    refine E.DW_take 4 (v := v.val) rfl (by kernel_rfl) (by kernel_rfl) (by kernel_rfl) (listed' := #[true, true, true, true, true, false, false, false, false, false, false, false, false, false, false, false, false, false, false]) rfl rfl x18 (fun w_ hS => E.r_load rfl (E.ld1 Try.underlying22 rfl ((E.ext_range hb (E.Ext.trans x15 hS)) 0 _ rfl))) rfl ?_
    refine E.DW_take 5 (v := .int .i64 ((v.len : Nat) : Int)) rfl (by kernel_rfl) (by kernel_rfl) (by kernel_rfl) (listed' := #[true, true, true, true, true, true, false, false, false, false, false, false, false, false, false, false, false, false, false]) rfl rfl x18 (fun w_ hS => E.r_len Try.underlying22 rfl) rfl ?_
    refine E.DW_take 6 (v := .bool (decide (((i : Nat) : Int) < ((v.len : Nat) : Int)))) rfl (by kernel_rfl) (by kernel_rfl) (by kernel_rfl) (listed' := #[true, true, true, true, true, true, true, false, false, false, false, false, false, false, false, false, false, false, false]) rfl rfl x18 (fun w_ hS => E.r_lss rfl rfl) rfl ?_
    refine E.DW_take 7 (v := .bool (decide (((i : Nat) : Int) < ((v.len : Nat) : Int)))) rfl (by kernel_rfl) (by kernel_rfl) (by kernel_rfl) (listed' := #[true, true, true, true, true, true, true, true, false, false, false, false, false, false, false, false, false, false, false]) rfl rfl x18 (fun w_ hS => E.r_move rfl) rfl ?_
    rcases E.bool_cases (decide (((i : Nat) : Int) < ((v.len : Nat) : Int))) with h1 | h1
    · skip
      have h1' := of_decide_eq_true h1
      refine E.DW_takeg 8 (v := .pointer (some ⟨b, 0, none⟩)) rfl (by kernel_rfl) (by kernel_rfl) (by kernel_rfl) (listed' := #[true, true, true, true, true, true, true, true, true, false, false, false, false, false, false, false, false, false, false]) rfl rfl rfl rfl h1 x18 (fun w_ hS => E.r_move e0_r13) rfl ?_
      refine E.DW_takeg 9 (v := .pointer (some ⟨b, 0, none⟩)) rfl (by kernel_rfl) (by kernel_rfl) (by kernel_rfl) (listed' := #[true, true, true, true, true, true, true, true, true, true, false, false, false, false, false, false, false, false, false]) rfl rfl rfl rfl h1 x18 (fun w_ hS => E.r_nil rfl) rfl ?_
      refine E.DW_takeg 10 (v := .pointer (some ⟨b, 0, none⟩)) rfl (by kernel_rfl) (by kernel_rfl) (by kernel_rfl) (listed' := #[true, true, true, true, true, true, true, true, true, true, true, false, false, false, false, false, false, false, false]) rfl rfl rfl rfl h1 x18 (fun w_ hS => E.r_field rfl fo145_0) rfl ?_
      refine E.DW_takeg 11 (v := v.val) rfl (by kernel_rfl) (by kernel_rfl) (by kernel_rfl) (listed' := #[true, true, true, true, true, true, true, true, true, true, true, true, false, false, false, false, false, false, false]) rfl rfl rfl rfl h1 x18 (fun w_ hS => E.r_load rfl (E.ld1 Try.underlying22 rfl ((E.ext_range hb (E.Ext.trans x15 hS)) 0 _ rfl))) rfl ?_
      refine E.DW_takeg 12 (v := .int .i64 ((i : Nat) : Int)) rfl (by kernel_rfl) (by kernel_rfl) (by kernel_rfl) (listed' := #[true, true, true, true, true, true, true, true, true, true, true, true, true, false, false, false, false, false, false]) rfl rfl rfl rfl h1 x18 (fun w_ hS => E.r_move e5_r13) rfl ?_
      obtain ⟨y22, hy23⟩ : ∃ y, ps[i]? = some y := ⟨_, List.getElem?_eq_getElem (by first | omega | (have := hv.1; omega))⟩
      refine E.DW_takeg 13 (v := .pointer (some ⟨v.b, v.o + i * 16, none⟩)) rfl (by kernel_rfl) (by kernel_rfl) (by kernel_rfl) (listed' := #[true, true, true, true, true, true, true, true, true, true, true, true, true, true, false, false, false, false, false]) rfl rfl rfl rfl h1 x18 (fun w_ hS => E.r_indexSl rfl rfl Try.underlying22 ts24 hv hy23) rfl ?_
      refine E.DW_takeg 14 (v := .agg (kl y22).toArray) rfl (by kernel_rfl) (by kernel_rfl) (by kernel_rfl) (listed' := #[true, true, true, true, true, true, true, true, true, true, true, true, true, true, true, false, false, false, false]) rfl rfl rfl rfl h1 x18 (fun w_ hS => E.r_load rfl (E.ldk Try.underlying24 rfl (ts24.trans (congrArg some (kl_len _).symm)) (hv.at_ (E.Ext.trans x15 hS) hy23))) rfl ?_
      refine E.DW_takeg 15 (v := .agg (kl k).toArray) rfl (by kernel_rfl) (by kernel_rfl) (by kernel_rfl) (listed' := #[true, true, true, true, true, true, true, true, true, true, true, true, true, true, true, true, false, false, false]) rfl rfl rfl rfl h1 x18 (fun w_ hS => E.r_load e3_r13 (E.ldk Try.underlying24 rfl (ts24.trans (congrArg some (kl_len _).symm)) (E.ext_range hr6 (E.Ext.trans x16 hS)))) rfl ?_
      refine E.DW_call 16 rfl (by kernel_rfl) (listed' := #[true, true, true, true, true, true, true, true, true, true, true, true, true, true, true, true, true, false, false]) rfl (.inr ⟨rfl, rfl, rfl, h1⟩) (E.r_call Try.func99 rfl rfl (E.args2 rfl rfl)) rfl ((ref_Cmp_ok w17 y22 k).mono ?_)
      rintro _ w24 ⟨rfl, x25⟩
      have x26 := E.Ext.trans x19 x25
      have x27 := E.Ext.trans x20 x25
      have x28 := E.Ext.trans x21 x25
      have x29 := E.Ext.trans x18 x25
      refine ⟨_, rfl, x29, ?_⟩
      refine E.DW_takeg 17 (v := .bool (decide ((kcmp y22 k) ≤ 0))) rfl (by kernel_rfl) (by kernel_rfl) (by kernel_rfl) (listed' := #[true, true, true, true, true, true, true, true, true, true, true, true, true, true, true, true, true, true, false]) rfl rfl rfl rfl h1 x29 (fun w_ hS => E.r_leq rfl rfl) rfl ?_
      refine E.DW_take 18 (v := .bool (decide ((kcmp y22 k) ≤ 0))) rfl (by kernel_rfl) (by kernel_rfl) (by kernel_rfl) (listed' := #[true, true, true, true, true, true, true, true, true, true, true, true, true, true, true, true, true, true, true]) rfl rfl x29 (fun w_ hS => E.r_pick_t rfl h1 rfl) rfl ?_
      refine E.DW_done (by kernel_rfl) ?_
      refine E.nx_normal ?_
      refine E.RL_cond rfl (fun h2 => ?_) (fun h2 => ?_)
      · skip
        have h2' := of_decide_eq_true h2
        refine E.RL_skip ?_
        refine E.nx_normal ?_
        refine E.RL_block ?_
        refine E.RL_region ?_
        refine E.OW_val (v := .int .i64 ((i : Nat) : Int)) rfl (E.r_move e5_r13) rfl ?_
        refine E.OW_val (v := .int .i64 ((i + 1 : Nat) : Int)) rfl (E.r_add rfl rfl (by rw [E.wrap_i64 (by omega) (by omega)]; omega)) rfl ?_
        refine E.OW_val (v := .int .i64 ((i + 1 : Nat) : Int)) rfl (E.r_assign rfl) rfl ?_
        refine E.OW_nil ?_
        refine E.blk_normal ?_
        refine E.nx_normal ?_
        refine ⟨_, (i + 1), ?_, rfl, e0_r13, e3_r13, e4_r13, rfl, x28, ⟨by omega, fun j x hj hx => ?_⟩⟩
        omega
        by_cases hji : j = i
        · subst hji
          rw [hy23] at hx
          cases hx
          exact h2
        · exact hall j x (by omega) hx
      · skip
        have h2' := of_decide_eq_false h2
        refine E.RL_exit ?_
        refine E.nx_exit ?_
        refine E.nx_exit ?_
        refine E.blk_eq ?_
        refine E.nx_normal ?_
        refine E.RL_seq ?_
        refine E.RL_region ?_
        refine E.OW_val (v := .int .i64 ((i : Nat) : Int)) rfl (E.r_move e5_r13) rfl ?_
        refine E.OW_val (v := .int .i64 ((i : Nat) : Int)) rfl (E.r_assign rfl) rfl ?_
        refine E.OW_nil ?_
        refine E.nx_normal ?_
        refine E.RL_ret ?_
        refine E.post_ret (E.res1 rfl) ?_
        refine ⟨?_, by assumption⟩
        have e : rcnt k ps = i := takeWhile_stop hall (fun x hx => by rw [hy23] at hx; cases hx; exact h2) hi
        rw [rofI, if_pos hg', e]; rfl
    · skip
      have h1' := of_decide_eq_false h1
      refine E.DW_no 8 rfl (by kernel_rfl) (by kernel_rfl) (by kernel_rfl) (listed' := #[true, true, true, true, true, true, true, true, true, false, false, false, false, false, false, false, false, false, false]) rfl rfl rfl rfl h1 x18 rfl ?_
      refine E.DW_no 9 rfl (by kernel_rfl) (by kernel_rfl) (by kernel_rfl) (listed' := #[true, true, true, true, true, true, true, true, true, true, false, false, false, false, false, false, false, false, false]) rfl rfl rfl rfl h1 x18 rfl ?_
      refine E.DW_no 10 rfl (by kernel_rfl) (by kernel_rfl) (by kernel_rfl) (listed' := #[true, true, true, true, true, true, true, true, true, true, true, false, false, false, false, false, false, false, false]) rfl rfl rfl rfl h1 x18 rfl ?_
      refine E.DW_no 11 rfl (by kernel_rfl) (by kernel_rfl) (by kernel_rfl) (listed' := #[true, true, true, true, true, true, true, true, true, true, true, true, false, false, false, false, false, false, false]) rfl rfl rfl rfl h1 x18 rfl ?_
      refine E.DW_no 12 rfl (by kernel_rfl) (by kernel_rfl) (by kernel_rfl) (listed' := #[true, true, true, true, true, true, true, true, true, true, true, true, true, false, false, false, false, false, false]) rfl rfl rfl rfl h1 x18 rfl ?_
      refine E.DW_no 13 rfl (by kernel_rfl) (by kernel_rfl) (by kernel_rfl) (listed' := #[true, true, true, true, true, true, true, true, true, true, true, true, true, true, false, false, false, false, false]) rfl rfl rfl rfl h1 x18 rfl ?_
      refine E.DW_no 14 rfl (by kernel_rfl) (by kernel_rfl) (by kernel_rfl) (listed' := #[true, true, true, true, true, true, true, true, true, true, true, true, true, true, true, false, false, false, false]) rfl rfl rfl rfl h1 x18 rfl ?_
      refine E.DW_no 15 rfl (by kernel_rfl) (by kernel_rfl) (by kernel_rfl) (listed' := #[true, true, true, true, true, true, true, true, true, true, true, true, true, true, true, true, false, false, false]) rfl rfl rfl rfl h1 x18 rfl ?_
      refine E.DW_no 16 rfl (by kernel_rfl) (by kernel_rfl) (by kernel_rfl) (listed' := #[true, true, true, true, true, true, true, true, true, true, true, true, true, true, true, true, true, false, false]) rfl rfl rfl rfl h1 x18 rfl ?_
      refine E.DW_no 17 rfl (by kernel_rfl) (by kernel_rfl) (by kernel_rfl) (listed' := #[true, true, true, true, true, true, true, true, true, true, true, true, true, true, true, true, true, true, false]) rfl rfl rfl rfl h1 x18 rfl ?_
      refine E.DW_take 18 (v := .bool false) rfl (by kernel_rfl) (by kernel_rfl) (by kernel_rfl) (listed' := #[true, true, true, true, true, true, true, true, true, true, true, true, true, true, true, true, true, true, true]) rfl rfl x18 (fun w_ hS => E.r_pick_f rfl h1 rfl) rfl ?_
      refine E.DW_done (by kernel_rfl) ?_
      refine E.nx_normal ?_
      refine E.RL_false rfl rfl ?_
      refine E.RL_exit ?_
      refine E.nx_exit ?_
      refine E.nx_exit ?_
      refine E.blk_eq ?_
      refine E.nx_normal ?_
      refine E.RL_seq ?_
      refine E.RL_region ?_
      refine E.OW_val (v := .int .i64 ((i : Nat) : Int)) rfl (E.r_move e5_r13) rfl ?_
      refine E.OW_val (v := .int .i64 ((i : Nat) : Int)) rfl (E.r_assign rfl) rfl ?_
      refine E.OW_nil ?_
      refine E.nx_normal ?_
      refine E.RL_ret ?_
      refine E.post_ret (E.res1 rfl) ?_
      refine ⟨?_, by assumption⟩
      have e : rcnt k ps = i := takeWhile_stop hall (fun x hx => by
        have := (List.getElem?_eq_some_iff.1 hx).1
        omega) hi
      rw [rofI, if_pos hg', e]; rfl
end Go.Proofs.Ytmajbdehejhbfaa
