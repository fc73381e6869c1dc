/-
  The contracts of the law's own functions: lists compared, what is too long.
-/
import Derived.Test.YtmajbdehejhbfaaRoute2
namespace Go.Proofs.Ytmajbdehejhbfaa
open Go Go.RowKit

theorem list_ne_at {α : Type} {l m : List α} {i : Nat} {x y : α} (h1 : l[i]? = some x) (h2 : m[i]? = some y) (h : x ≠ y) : l ≠ m := fun e => by
  subst e; rw [h1] at h2; cases h2; exact h rfl
theorem list_eq_all {α : Type} {l m : List α} (hl : l.length = m.length) (h : ∀ (j : Nat) (x y : α), l[j]? = some x → m[j]? = some y → x = y) : l = m := by
  apply List.ext_getElem? ; intro j
  by_cases hj : j < l.length
  · have h1 := List.getElem?_eq_getElem hj
    have h2 := List.getElem?_eq_getElem (l := m) (i := j) (by omega)
    rw [h1, h2, h j _ _ h1 h2]
  · rw [List.getElem?_eq_none (by omega), List.getElem?_eq_none (by omega)]
theorem ref_Writes_ok (w : World) (u v : E.Sl) (a b : List Write) (hu : E.Rd w u 18 wl a) (hv : E.Rd w v 18 wl b) (ha : a.length ≤ 100000) (hb : b.length ≤ 100000) :
    Calls Try.prog 21 #[u.val, v.val] w fun e w' => e = .returned (.bool (decide (a = b))) ∧ Ext w w' := by
  have hlu := hu.1
  have hlv := hv.1
  refine E.calls_of_RL Try.func21 rfl Try.ntmps21 (Nat.le_of_ble_eq_true rfl) ?_
  refine E.RL_seq ?_
  refine E.RL_region ?_
  refine E.OW_val (v := .bool false) rfl (E.r_assign rfl) rfl ?_
  refine E.OW_nil ?_
  refine E.nx_normal ?_
  refine E.RL_seq ?_
  refine E.RL_seq ?_
  refine E.RL_region ?_
  refine E.OW_val (v := u.val) rfl (E.r_move rfl) rfl ?_
  refine E.OW_val (v := .int .i64 ((u.len : Nat) : Int)) rfl (E.r_len Try.underlying25 rfl) rfl ?_
  refine E.OW_val (v := v.val) rfl (E.r_move rfl) rfl ?_
  refine E.OW_val (v := .int .i64 ((v.len : Nat) : Int)) rfl (E.r_len Try.underlying25 rfl) rfl ?_
  refine E.OW_val (v := .bool (decide (((u.len : Nat) : Int) ≠ ((v.len : Nat) : Int)))) rfl (E.r_neq rfl rfl) rfl ?_
  refine E.OW_nil ?_
  refine E.nx_normal ?_
  refine E.RL_cond rfl (fun h0 => ?_) (fun h0 => ?_)
  · skip
    have h0' := of_decide_eq_true h0
    refine E.RL_seq ?_
    refine E.RL_region ?_
    refine E.OW_val (v := .bool false) rfl (E.r_assign rfl) rfl ?_
    refine E.OW_nil ?_
    refine E.nx_normal ?_
    refine E.RL_ret ?_
    refine E.nx_ret ?_
    refine E.post_ret (E.res1 rfl) ?_
    refine ⟨?_, (E.Ext.refl _)⟩
    rw [decide_eq_false (p := a = b) (fun e => h0' (by subst e; omega))]; rfl
  · skip
    have h0' := of_decide_eq_false h0
    refine E.RL_skip ?_
    refine E.nx_normal ?_
    refine E.RL_seq ?_
    refine E.RL_seq ?_
    refine E.RL_region ?_
    refine E.OW_val (v := .int .i64 0) rfl (E.r_assign rfl) rfl ?_
    refine E.OW_nil ?_
    refine E.nx_normal ?_
    refine E.RL_block ?_
    refine E.RL_loopg (fun m_ (i : Nat) ρ_ w_ => m_ = a.length - i ∧ ρ_ 0 = u.val ∧ ρ_ 1 = v.val ∧ ρ_ 5 = .int .i64 ((i : Nat) : Int) ∧ E.Ext w w_ ∧ i ≤ a.length ∧ ∀ j x y, j < i → a[j]? = some x → b[j]? = some y → x = y) _ (0) ⟨rfl, rfl, rfl, rfl, (E.Ext.refl _), ⟨by omega, fun j x y hj => by omega⟩⟩ ?_
    rintro _ i r2 w1 ⟨rfl, e0_r2, e1_r2, e5_r2, x3, hinv_r2⟩
    have hinv := hinv_r2
    obtain ⟨hi, hall⟩ := hinv
    refine E.RL_seq ?_
    refine E.RL_seq ?_
    refine E.RL_region ?_
    refine E.OW_val (v := .int .i64 ((i : Nat) : Int)) rfl (E.r_move e5_r2) rfl ?_
    refine E.OW_val (v := u.val) rfl (E.r_move e0_r2) rfl ?_
    refine E.OW_val (v := .int .i64 ((u.len : Nat) : Int)) rfl (E.r_len Try.underlying25 rfl) rfl ?_
    refine E.OW_val (v := .bool (decide (((i : Nat) : Int) < ((u.len : Nat) : Int)))) rfl (E.r_lss rfl rfl) rfl ?_
    refine E.OW_nil ?_
    refine E.nx_normal ?_
    refine E.RL_cond rfl (fun h1 => ?_) (fun h1 => ?_)
    · skip
      have h1' := of_decide_eq_true h1
      refine E.RL_skip ?_
      refine E.nx_normal ?_
      refine E.RL_seq ?_
      refine E.RL_block ?_
      refine E.RL_seq ?_
      refine E.RL_draw (fun w_ => E.Ext w1 w_) (by kernel_rfl) (fuel := 9) (listed := #[false, false, false, false, false, false, false, false, false]) rfl rfl ?_
      obtain ⟨w4, x5e⟩ : ∃ y, y = World.drew w1 := ⟨_, rfl⟩
      rw [← x5e]
      have x5 : E.Ext w1 w4 := by rw [x5e]; exact E.Ext.drew _
      clear x5e
      have x6 := E.Ext.trans x3 x5
      refine E.DW_take 0 (v := u.val) rfl (by kernel_rfl) (by kernel_rfl) (by kernel_rfl) (listed' := #[true, false, false, false, false, false, false, false, false]) rfl rfl x5 (fun w_ hS => E.r_move e0_r2) rfl ?_
      refine E.DW_take 1 (v := .int .i64 ((i : Nat) : Int)) rfl (by kernel_rfl) (by kernel_rfl) (by kernel_rfl) (listed' := #[true, true, false, false, false, false, false, false, false]) rfl rfl x5 (fun w_ hS => E.r_move e5_r2) rfl ?_
      obtain ⟨y7, hy8⟩ : ∃ y, a[i]? = some y := ⟨_, List.getElem?_eq_getElem (by first | omega | (have := hu.1; omega))⟩
      refine E.DW_take 2 (v := .pointer (some ⟨u.b, u.o + i * 18, none⟩)) rfl (by kernel_rfl) (by kernel_rfl) (by kernel_rfl) (listed' := #[true, true, true, false, false, false, false, false, false]) rfl rfl x5 (fun w_ hS => E.r_indexSl rfl rfl Try.underlying25 ts64 hu hy8) rfl ?_
      refine E.DW_take 3 (v := .agg (wl y7).toArray) rfl (by kernel_rfl) (by kernel_rfl) (by kernel_rfl) (listed' := #[true, true, true, true, false, false, false, false, false]) rfl rfl x5 (fun w_ hS => E.r_load rfl (E.ldk Try.underlying64 rfl (ts64.trans (congrArg some (wl_len _).symm)) (hu.at_ (E.Ext.trans x3 hS) hy8))) rfl ?_
      refine E.DW_take 4 (v := v.val) rfl (by kernel_rfl) (by kernel_rfl) (by kernel_rfl) (listed' := #[true, true, true, true, true, false, false, false, false]) rfl rfl x5 (fun w_ hS => E.r_move e1_r2) rfl ?_
      refine E.DW_take 5 (v := .int .i64 ((i : Nat) : Int)) rfl (by kernel_rfl) (by kernel_rfl) (by kernel_rfl) (listed' := #[true, true, true, true, true, true, false, false, false]) rfl rfl x5 (fun w_ hS => E.r_move e5_r2) rfl ?_
      obtain ⟨y9, hy10⟩ : ∃ y, b[i]? = some y := ⟨_, List.getElem?_eq_getElem (by first | omega | (have := hv.1; omega))⟩
      refine E.DW_take 6 (v := .pointer (some ⟨v.b, v.o + i * 18, none⟩)) rfl (by kernel_rfl) (by kernel_rfl) (by kernel_rfl) (listed' := #[true, true, true, true, true, true, true, false, false]) rfl rfl x5 (fun w_ hS => E.r_indexSl rfl rfl Try.underlying25 ts64 hv hy10) rfl ?_
      refine E.DW_take 7 (v := .agg (wl y9).toArray) rfl (by kernel_rfl) (by kernel_rfl) (by kernel_rfl) (listed' := #[true, true, true, true, true, true, true, true, false]) rfl rfl x5 (fun w_ hS => E.r_load rfl (E.ldk Try.underlying64 rfl (ts64.trans (congrArg some (wl_len _).symm)) (hv.at_ (E.Ext.trans x3 hS) hy10))) rfl ?_
      refine E.DW_take 8 (v := .bool (decide (y7 ≠ y9))) rfl (by kernel_rfl) (by kernel_rfl) (by kernel_rfl) (listed' := #[true, true, true, true, true, true, true, true, true]) rfl rfl x5 (fun w_ hS => r_neq_wl rfl rfl) rfl ?_
      refine E.DW_done (by kernel_rfl) ?_
      refine E.nx_normal ?_
      refine E.RL_cond rfl (fun h2 => ?_) (fun h2 => ?_)
      · skip
        have h2' := of_decide_eq_true h2
        refine E.RL_seq ?_
        refine E.RL_region ?_
        refine E.OW_val (v := .bool false) rfl (E.r_assign rfl) rfl ?_
        refine E.OW_nil ?_
        refine E.nx_normal ?_
        refine E.RL_ret ?_
        refine E.blk_ret ?_
        refine E.nx_ret ?_
        refine E.nx_ret ?_
        refine E.blk_ret ?_
        refine E.nx_ret ?_
        refine E.post_ret (E.res1 rfl) ?_
        refine ⟨?_, x6⟩
        rw [decide_eq_false (p := a = b) (list_ne_at hy8 hy10 h2')]; rfl
      · skip
        have h2' := of_decide_eq_false h2
        refine E.RL_skip ?_
        refine E.blk_normal ?_
        refine E.nx_normal ?_
        refine E.RL_region ?_
        refine E.OW_val (v := .int .i64 ((i : Nat) : Int)) rfl (E.r_move e5_r2) rfl ?_
        refine E.OW_val (v := .int .i64 ((i + 1 : Nat) : Int)) rfl (E.r_add rfl rfl (by rw [E.wrap_i64 (by omega) (by omega)]; omega)) rfl ?_
        refine E.OW_val (v := .int .i64 ((i + 1 : Nat) : Int)) rfl (E.r_assign rfl) rfl ?_
        refine E.OW_nil ?_
        refine E.nx_normal ?_
        refine ⟨_, (i + 1), ?_, rfl, e0_r2, e1_r2, rfl, x6, ⟨by omega, fun j x y hj hx hy => ?_⟩⟩
        omega
        by_cases hji : j = i
        · subst hji
          rw [hy8] at hx; rw [hy10] at hy; cases hx; cases hy
          exact Decidable.not_not.1 h2'
        · exact hall j x y (by omega) hx hy
    · skip
      have h1' := of_decide_eq_false h1
      refine E.RL_exit ?_
      refine E.nx_exit ?_
      refine E.nx_exit ?_
      refine E.blk_eq ?_
      refine E.nx_normal ?_
      refine E.RL_seq ?_
      refine E.RL_region ?_
      refine E.OW_val (v := .bool true) rfl (E.r_assign rfl) rfl ?_
      refine E.OW_nil ?_
      refine E.nx_normal ?_
      refine E.RL_ret ?_
      refine E.post_ret (E.res1 rfl) ?_
      refine ⟨?_, x3⟩
      rw [decide_eq_true (p := a = b) (list_eq_all (by omega) (fun j x y hx hy => hall j x y (by have := (List.getElem?_eq_some_iff.1 hx).1; omega) hx hy))]; rfl

theorem same_ok (w : World) (u v : E.Sl) (a b : List Int) (hu : E.Rd w u 1 il a) (hv : E.Rd w v 1 il b) (ha : a.length ≤ 100000) (hb : b.length ≤ 100000) :
    Calls Try.prog 24 #[u.val, v.val] w fun e w' => e = .returned (.bool (decide (a = b))) ∧ Ext w w' := by
  have hlu := hu.1
  have hlv := hv.1
  refine E.calls_of_RL Try.func24 rfl Try.ntmps24 (Nat.le_of_ble_eq_true rfl) ?_
  refine E.RL_seq ?_
  refine E.RL_region ?_
  refine E.OW_val (v := .bool false) rfl (E.r_assign rfl) rfl ?_
  refine E.OW_nil ?_
  refine E.nx_normal ?_
  refine E.RL_seq ?_
  refine E.RL_seq ?_
  refine E.RL_region ?_
  refine E.OW_val (v := u.val) rfl (E.r_move rfl) rfl ?_
  refine E.OW_val (v := .int .i64 ((u.len : Nat) : Int)) rfl (E.r_len Try.underlying42 rfl) rfl ?_
  refine E.OW_val (v := v.val) rfl (E.r_move rfl) rfl ?_
  refine E.OW_val (v := .int .i64 ((v.len : Nat) : Int)) rfl (E.r_len Try.underlying42 rfl) rfl ?_
  refine E.OW_val (v := .bool (decide (((u.len : Nat) : Int) ≠ ((v.len : Nat) : Int)))) rfl (E.r_neq rfl rfl) rfl ?_
  refine E.OW_nil ?_
  refine E.nx_normal ?_
  refine E.RL_cond rfl (fun h0 => ?_) (fun h0 => ?_)
  · skip
    have h0' := of_decide_eq_true h0
    refine E.RL_seq ?_
    refine E.RL_region ?_
    refine E.OW_val (v := .bool false) rfl (E.r_assign rfl) rfl ?_
    refine E.OW_nil ?_
    refine E.nx_normal ?_
    refine E.RL_ret ?_
    refine E.nx_ret ?_
    refine E.post_ret (E.res1 rfl) ?_
    refine ⟨?_, (E.Ext.refl _)⟩
    rw [decide_eq_false (p := a = b) (fun e => h0' (by subst e; omega))]; rfl
  · skip
    have h0' := of_decide_eq_false h0
    refine E.RL_skip ?_
    refine E.nx_normal ?_
    refine E.RL_seq ?_
    refine E.RL_seq ?_
    refine E.RL_region ?_
    refine E.OW_val (v := .int .i64 0) rfl (E.r_assign rfl) rfl ?_
    refine E.OW_nil ?_
    refine E.nx_normal ?_
    refine E.RL_block ?_
    refine E.RL_loopg (fun m_ (i : Nat) ρ_ w_ => m_ = a.length - i ∧ ρ_ 0 = u.val ∧ ρ_ 1 = v.val ∧ ρ_ 5 = .int .i64 ((i : Nat) : Int) ∧ E.Ext w w_ ∧ i ≤ a.length ∧ ∀ j x y, j < i → a[j]? = some x → b[j]? = some y → x = y) _ (0) ⟨rfl, rfl, rfl, rfl, (E.Ext.refl _), ⟨by omega, fun j x y hj => by omega⟩⟩ ?_
    rintro _ i r2 w1 ⟨rfl, e0_r2, e1_r2, e5_r2, x3, hinv_r2⟩
    have hinv := hinv_r2
    obtain ⟨hi, hall⟩ := hinv
    refine E.RL_seq ?_
    refine E.RL_seq ?_
    refine E.RL_region ?_
    refine E.OW_val (v := .int .i64 ((i : Nat) : Int)) rfl (E.r_move e5_r2) rfl ?_
    refine E.OW_val (v := u.val) rfl (E.r_move e0_r2) rfl ?_
    refine E.OW_val (v := .int .i64 ((u.len : Nat) : Int)) rfl (E.r_len Try.underlying42 rfl) rfl ?_
    refine E.OW_val (v := .bool (decide (((i : Nat) : Int) < ((u.len : Nat) : Int)))) rfl (E.r_lss rfl rfl) rfl ?_
    refine E.OW_nil ?_
    refine E.nx_normal ?_
    refine E.RL_cond rfl (fun h1 => ?_) (fun h1 => ?_)
    · skip
      have h1' := of_decide_eq_true h1
      refine E.RL_skip ?_
      refine E.nx_normal ?_
      refine E.RL_seq ?_
      refine E.RL_block ?_
      refine E.RL_seq ?_
      refine E.RL_draw (fun w_ => E.Ext w1 w_) (by kernel_rfl) (fuel := 9) (listed := #[false, false, false, false, false, false, false, false, false]) rfl rfl ?_
      obtain ⟨w4, x5e⟩ : ∃ y, y = World.drew w1 := ⟨_, rfl⟩
      rw [← x5e]
      have x5 : E.Ext w1 w4 := by rw [x5e]; exact E.Ext.drew _
      clear x5e
      have x6 := E.Ext.trans x3 x5
      refine E.DW_take 0 (v := u.val) rfl (by kernel_rfl) (by kernel_rfl) (by kernel_rfl) (listed' := #[true, false, false, false, false, false, false, false, false]) rfl rfl x5 (fun w_ hS => E.r_move e0_r2) rfl ?_
      refine E.DW_take 1 (v := .int .i64 ((i : Nat) : Int)) rfl (by kernel_rfl) (by kernel_rfl) (by kernel_rfl) (listed' := #[true, true, false, false, false, false, false, false, false]) rfl rfl x5 (fun w_ hS => E.r_move e5_r2) rfl ?_
      obtain ⟨y7, hy8⟩ : ∃ y, a[i]? = some y := ⟨_, List.getElem?_eq_getElem (by first | omega | (have := hu.1; omega))⟩
      refine E.DW_take 2 (v := .pointer (some ⟨u.b, u.o + i * 1, none⟩)) rfl (by kernel_rfl) (by kernel_rfl) (by kernel_rfl) (listed' := #[true, true, true, false, false, false, false, false, false]) rfl rfl x5 (fun w_ hS => E.r_indexSl rfl rfl Try.underlying42 ts3 hu hy8) rfl ?_
      refine E.DW_take 3 (v := .int .i64 y7) rfl (by kernel_rfl) (by kernel_rfl) (by kernel_rfl) (listed' := #[true, true, true, true, false, false, false, false, false]) rfl rfl x5 (fun w_ hS => E.r_load rfl (E.ld1 Try.underlying3 rfl ((hu.at_ (E.Ext.trans x3 hS) hy8) 0 _ rfl))) rfl ?_
      refine E.DW_take 4 (v := v.val) rfl (by kernel_rfl) (by kernel_rfl) (by kernel_rfl) (listed' := #[true, true, true, true, true, false, false, false, false]) rfl rfl x5 (fun w_ hS => E.r_move e1_r2) rfl ?_
      refine E.DW_take 5 (v := .int .i64 ((i : Nat) : Int)) rfl (by kernel_rfl) (by kernel_rfl) (by kernel_rfl) (listed' := #[true, true, true, true, true, true, false, false, false]) rfl rfl x5 (fun w_ hS => E.r_move e5_r2) rfl ?_
      obtain ⟨y9, hy10⟩ : ∃ y, b[i]? = some y := ⟨_, List.getElem?_eq_getElem (by first | omega | (have := hv.1; omega))⟩
      refine E.DW_take 6 (v := .pointer (some ⟨v.b, v.o + i * 1, none⟩)) rfl (by kernel_rfl) (by kernel_rfl) (by kernel_rfl) (listed' := #[true, true, true, true, true, true, true, false, false]) rfl rfl x5 (fun w_ hS => E.r_indexSl rfl rfl Try.underlying42 ts3 hv hy10) rfl ?_
      refine E.DW_take 7 (v := .int .i64 y9) rfl (by kernel_rfl) (by kernel_rfl) (by kernel_rfl) (listed' := #[true, true, true, true, true, true, true, true, false]) rfl rfl x5 (fun w_ hS => E.r_load rfl (E.ld1 Try.underlying3 rfl ((hv.at_ (E.Ext.trans x3 hS) hy10) 0 _ rfl))) rfl ?_
      refine E.DW_take 8 (v := .bool (decide (y7 ≠ y9))) rfl (by kernel_rfl) (by kernel_rfl) (by kernel_rfl) (listed' := #[true, true, true, true, true, true, true, true, true]) rfl rfl x5 (fun w_ hS => E.r_neq rfl rfl) rfl ?_
      refine E.DW_done (by kernel_rfl) ?_
      refine E.nx_normal ?_
      refine E.RL_cond rfl (fun h2 => ?_) (fun h2 => ?_)
      · skip
        have h2' := of_decide_eq_true h2
        refine E.RL_seq ?_
        refine E.RL_region ?_
        refine E.OW_val (v := .bool false) rfl (E.r_assign rfl) rfl ?_
        refine E.OW_nil ?_
        refine E.nx_normal ?_
        refine E.RL_ret ?_
        refine E.blk_ret ?_
        refine E.nx_ret ?_
        refine E.nx_ret ?_
        refine E.blk_ret ?_
        refine E.nx_ret ?_
        refine E.post_ret (E.res1 rfl) ?_
        refine ⟨?_, x6⟩
        rw [decide_eq_false (p := a = b) (list_ne_at hy8 hy10 h2')]; rfl
      · skip
        have h2' := of_decide_eq_false h2
        refine E.RL_skip ?_
        refine E.blk_normal ?_
        refine E.nx_normal ?_
        refine E.RL_region ?_
        refine E.OW_val (v := .int .i64 ((i : Nat) : Int)) rfl (E.r_move e5_r2) rfl ?_
        refine E.OW_val (v := .int .i64 ((i + 1 : Nat) : Int)) rfl (E.r_add rfl rfl (by rw [E.wrap_i64 (by omega) (by omega)]; omega)) rfl ?_
        refine E.OW_val (v := .int .i64 ((i + 1 : Nat) : Int)) rfl (E.r_assign rfl) rfl ?_
        refine E.OW_nil ?_
        refine E.nx_normal ?_
        refine ⟨_, (i + 1), ?_, rfl, e0_r2, e1_r2, rfl, x6, ⟨by omega, fun j x y hj hx hy => ?_⟩⟩
        omega
        by_cases hji : j = i
        · subst hji
          rw [hy8] at hx; rw [hy10] at hy; cases hx; cases hy
          exact Decidable.not_not.1 h2'
        · exact hall j x y (by omega) hx hy
    · skip
      have h1' := of_decide_eq_false h1
      refine E.RL_exit ?_
      refine E.nx_exit ?_
      refine E.nx_exit ?_
      refine E.blk_eq ?_
      refine E.nx_normal ?_
      refine E.RL_seq ?_
      refine E.RL_region ?_
      refine E.OW_val (v := .bool true) rfl (E.r_assign rfl) rfl ?_
      refine E.OW_nil ?_
      refine E.nx_normal ?_
      refine E.RL_ret ?_
      refine E.post_ret (E.res1 rfl) ?_
      refine ⟨?_, x3⟩
      rw [decide_eq_true (p := a = b) (list_eq_all (by omega) (fun j x y hx hy => hall j x y (by have := (List.getElem?_eq_some_iff.1 hx).1; omega) hx hy))]; rfl

theorem long_ok (w : World) (u : E.Sl) (ws : List Write) (hu : E.Rd w u 18 wl ws) :
    Calls Try.prog 15 #[u.val] w fun e w' => ∃ b : Bool, e = .returned (.bool b) ∧ Ext w w' ∧ (b = false → ws.length ≤ 20) := by
  have hlu := hu.1
  refine E.calls_of_RL Try.func15 rfl Try.ntmps15 (Nat.le_of_ble_eq_true rfl) ?_
  refine E.RL_seq ?_
  refine E.RL_region ?_
  refine E.OW_val (v := .bool false) rfl (E.r_assign rfl) rfl ?_
  refine E.OW_nil ?_
  refine E.nx_normal ?_
  refine E.RL_seq ?_
  refine E.RL_seq ?_
  refine E.RL_region ?_
  refine E.OW_val (v := u.val) rfl (E.r_move rfl) rfl ?_
  refine E.OW_val (v := .int .i64 ((u.len : Nat) : Int)) rfl (E.r_len Try.underlying25 rfl) rfl ?_
  refine E.OW_val (v := .bool (decide (20 < ((u.len : Nat) : Int)))) rfl (E.r_gtr rfl rfl) rfl ?_
  refine E.OW_nil ?_
  refine E.nx_normal ?_
  refine E.RL_cond rfl (fun h0 => ?_) (fun h0 => ?_)
  · skip
    have h0' := of_decide_eq_true h0
    refine E.RL_seq ?_
    refine E.RL_region ?_
    refine E.OW_val (v := .bool true) rfl (E.r_assign rfl) rfl ?_
    refine E.OW_nil ?_
    refine E.nx_normal ?_
    refine E.RL_ret ?_
    refine E.nx_ret ?_
    refine E.post_ret (E.res1 rfl) ?_
    exact ⟨_, rfl, (E.Ext.refl _), by simp⟩
  · skip
    have h0' := of_decide_eq_false h0
    refine E.RL_skip ?_
    refine E.nx_normal ?_
    refine E.RL_seq ?_
    refine E.RL_seq ?_
    refine E.RL_region ?_
    refine E.OW_val (v := .int .i64 0) rfl (E.r_assign rfl) rfl ?_
    refine E.OW_nil ?_
    refine E.nx_normal ?_
    refine E.RL_block ?_
    refine E.RL_loopg (fun m_ (i : Nat) ρ_ w_ => m_ = ws.length - i ∧ ρ_ 0 = u.val ∧ ρ_ 3 = .int .i64 ((i : Nat) : Int) ∧ E.Ext w w_ ∧ i ≤ ws.length) _ (0) ⟨rfl, rfl, rfl, (E.Ext.refl _), by omega⟩ ?_
    rintro _ i r2 w1 ⟨rfl, e0_r2, e3_r2, x3, hinv_r2⟩
    have hinv := hinv_r2
    refine E.RL_seq ?_
    refine E.RL_seq ?_
    refine E.RL_region ?_
    refine E.OW_val (v := .int .i64 ((i : Nat) : Int)) rfl (E.r_move e3_r2) rfl ?_
    refine E.OW_val (v := u.val) rfl (E.r_move e0_r2) rfl ?_
    refine E.OW_val (v := .int .i64 ((u.len : Nat) : Int)) rfl (E.r_len Try.underlying25 rfl) rfl ?_
    refine E.OW_val (v := .bool (decide (((i : Nat) : Int) < ((u.len : Nat) : Int)))) rfl (E.r_lss rfl rfl) rfl ?_
    refine E.OW_nil ?_
    refine E.nx_normal ?_
    refine E.RL_cond rfl (fun h1 => ?_) (fun h1 => ?_)
    · skip
      have h1' := of_decide_eq_true h1
      refine E.RL_skip ?_
      refine E.nx_normal ?_
      refine E.RL_seq ?_
      refine E.RL_block ?_
      refine E.RL_seq ?_
      refine E.RL_region ?_
      refine E.OW_val (v := u.val) rfl (E.r_move e0_r2) rfl ?_
      refine E.OW_val (v := .int .i64 ((i : Nat) : Int)) rfl (E.r_move e3_r2) rfl ?_
      obtain ⟨y4, hy5⟩ : ∃ y, ws[i]? = some y := ⟨_, List.getElem?_eq_getElem (by first | omega | (have := hu.1; omega))⟩
      refine E.OW_val (v := .pointer (some ⟨u.b, u.o + i * 18, none⟩)) rfl (E.r_indexSl rfl rfl Try.underlying25 ts64 hu hy5) rfl ?_
      refine E.OW_val (v := .pointer (some ⟨u.b, u.o + i * 18 + 16, none⟩)) rfl (E.r_field (o := u.o + i * 18) (k := 16) rfl fo64_1) rfl ?_
      refine E.OW_val (v := .string y4.val) rfl (E.r_load rfl (E.ld1 Try.underlying9 rfl ((hu.at_ x3 hy5) 16 _ wl_val))) rfl ?_
      refine E.OW_val (v := .int .i64 ((y4.val.size : Nat) : Int)) rfl (E.r_lenS Try.underlying9 rfl) rfl ?_
      refine E.OW_val (v := .bool (decide (250 < ((y4.val.size : Nat) : Int)))) rfl (E.r_gtr rfl rfl) rfl ?_
      refine E.OW_nil ?_
      refine E.nx_normal ?_
      refine E.RL_cond rfl (fun h2 => ?_) (fun h2 => ?_)
      · skip
        have h2' := of_decide_eq_true h2
        refine E.RL_seq ?_
        refine E.RL_region ?_
        refine E.OW_val (v := .bool true) rfl (E.r_assign rfl) rfl ?_
        refine E.OW_nil ?_
        refine E.nx_normal ?_
        refine E.RL_ret ?_
        refine E.blk_ret ?_
        refine E.nx_ret ?_
        refine E.nx_ret ?_
        refine E.blk_ret ?_
        refine E.nx_ret ?_
        refine E.post_ret (E.res1 rfl) ?_
        exact ⟨_, rfl, x3, by simp⟩
      · skip
        have h2' := of_decide_eq_false h2
        refine E.RL_skip ?_
        refine E.blk_normal ?_
        refine E.nx_normal ?_
        refine E.RL_region ?_
        refine E.OW_val (v := .int .i64 ((i : Nat) : Int)) rfl (E.r_move e3_r2) rfl ?_
        refine E.OW_val (v := .int .i64 ((i + 1 : Nat) : Int)) rfl (E.r_add rfl rfl (by rw [E.wrap_i64 (by omega) (by omega)]; omega)) rfl ?_
        refine E.OW_val (v := .int .i64 ((i + 1 : Nat) : Int)) rfl (E.r_assign rfl) rfl ?_
        refine E.OW_nil ?_
        refine E.nx_normal ?_
        refine ⟨_, (i + 1), ?_, rfl, e0_r2, rfl, x3, by omega⟩
        omega
    · skip
      have h1' := of_decide_eq_false h1
      refine E.RL_exit ?_
      refine E.nx_exit ?_
      refine E.nx_exit ?_
      refine E.blk_eq ?_
      refine E.nx_normal ?_
      refine E.RL_seq ?_
      refine E.RL_region ?_
      refine E.OW_val (v := .bool false) rfl (E.r_assign rfl) rfl ?_
      refine E.OW_nil ?_
      refine E.nx_normal ?_
      refine E.RL_ret ?_
      refine E.post_ret (E.res1 rfl) ?_
      exact ⟨_, rfl, x3, fun _ => by omega⟩

/-- The law's own keys. -/
theorem law17_k_ok (w : World) (s : ByteArray) :
    Calls Try.prog 94 #[.string s] w fun e w' => e = .returned (kv (kofK s)) ∧ Ext w w' := by
  refine E.calls_of_RL Try.func94 rfl Try.ntmps94 (Nat.le_of_ble_eq_true rfl) ?_
  refine E.RL_seq ?_
  refine E.RL_region ?_
  refine E.OW_alloc (z := .agg (kl zeroK).toArray) (cs := kl zeroK) (by kernel_rfl) rfl rfl (fun b1 w2 hb3 x4 hz5 hr6 ht7 => ?_)
  have ht8 : World.there w2 b1 0 16 := by rw [kl_len] at ht7; exact ht7
  refine E.OW_nil ?_
  refine E.nx_normal ?_
  refine E.RL_seq ?_
  refine E.RL_region ?_
  refine E.OW_val (v := .string s) rfl (E.r_move rfl) rfl ?_
  refine E.OW_call rfl (E.r_call Try.func110 rfl rfl (E.args1 rfl)) rfl ((ref_Of_ok w2 s).mono ?_)
  rintro _ w9 ⟨rfl, x10⟩
  refine ⟨_, rfl, ?_⟩
  have x11 := E.Ext.trans x4 x10
  refine E.OW_val (v := .tuple #[.agg (kl (kofK s)).toArray, .bool (!kbad s.data.toList)]) rfl (E.r_move rfl) rfl ?_
  refine E.OW_val (v := .agg (kl (kofK s)).toArray) rfl (E.r_extract rfl rfl) rfl ?_
  refine E.OW_val (v := .bool (!kbad s.data.toList)) rfl (E.r_extract rfl rfl) rfl ?_
  refine E.OW_alloc (z := .agg (kl zeroK).toArray) (cs := kl zeroK) (by kernel_rfl) rfl rfl (fun b12 w13 hb14 x15 hz16 hr17 ht18 => ?_)
  have x19 := E.Ext.trans x11 x15
  have x20 := E.Ext.trans x10 x15
  have ht21 : World.there w13 b12 0 16 := by rw [kl_len] at ht18; exact ht18
  refine E.OW_stk (cs := kl (kofK s)) rfl rfl rfl (ts24.trans (congrArg some (kl_len _).symm)) (kl_one _) (by rw [kl_len]; exact (E.ext_there ht21 (E.Ext.refl _))) rfl (fun w22 hs23 _ => ?_)
  have x24 := hs23.1 _ x19 (by first | omega | (have := x11.size; omega))
  have x25 := hs23.1 _ x20 (by first | omega | (have := x10.size; omega))
  have x26 := hs23.1 _ x15 (by first | omega | (have := (E.Ext.refl _).size; omega))
  have hr27 := hs23.2.2.1
  have ht28 := hs23.2.2.2.1 _ _ _ (E.ext_there ht21 (E.Ext.refl _))
  refine E.OW_val (v := .bool (!kbad s.data.toList)) rfl (E.r_assign rfl) rfl ?_
  refine E.OW_nil ?_
  refine E.nx_normal ?_
  refine E.RL_seq ?_
  refine E.RL_region ?_
  refine E.OW_val (v := .agg (kl (kofK s)).toArray) rfl (E.r_load rfl (E.ldk Try.underlying24 rfl (ts24.trans (congrArg some (kl_len _).symm)) (E.ext_range hr27 (E.Ext.refl _)))) rfl ?_
  refine E.OW_stk (cs := kl (kofK s)) rfl rfl rfl (ts24.trans (congrArg some (kl_len _).symm)) (kl_one _) (by rw [kl_len]; exact (E.ext_there ht8 x25)) rfl (fun w29 hs30 _ => ?_)
  have x31 := hs30.1 _ x24 (by first | omega | (have := (E.Ext.refl _).size; omega))
  have hr32 := hs30.2.2.1
  have ht33 := hs30.2.2.2.1 _ _ _ (E.ext_there ht8 x25)
  have hr34 := hs30.2.2.2.2 _ _ _ (Or.inl (by have := x10.size; omega)) (E.ext_range hr27 (E.Ext.refl _))
  have ht35 := hs30.2.2.2.1 _ _ _ (E.ext_there ht28 (E.Ext.refl _))
  refine E.OW_nil ?_
  refine E.nx_normal ?_
  refine E.RL_ret ?_
  refine E.post_ret (E.res_c (a := 2) (t := 24) (p := ⟨b1, 0, none⟩) rfl rfl (E.ldk Try.underlying24 rfl (ts24.trans (congrArg some (kl_len _).symm)) (E.ext_range hr32 (E.Ext.refl _)))) ?_
  exact ⟨rfl, x31⟩
end Go.Proofs.Ytmajbdehejhbfaa
