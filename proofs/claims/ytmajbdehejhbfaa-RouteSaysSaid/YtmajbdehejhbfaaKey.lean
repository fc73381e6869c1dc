/-
  The contracts of the functions on keys and stamps.
-/
import Derived.Test.YtmajbdehejhbfaaBase
namespace Go.Proofs.Ytmajbdehejhbfaa
open Go Go.RowKit

set_option maxRecDepth 100000 in
/-- bytes.Compare on two keys' bytes. -/
theorem bytes_Compare_ok (w : World) (b o c b' o' c' : Nat) (k k' : Key) (h : w.rangeAt b o (kl k)) (h' : w.rangeAt b' o' (kl k')) :
    Calls Try.prog 139 #[.slice (some ⟨b, o, none⟩) 16 c, .slice (some ⟨b', o', none⟩) 16 c'] w fun e w' => e = .returned (.int .i64 (Lib.compareBytes k.1 k'.1)) ∧ w = w' := by
  have hrun := run_compare_keys Try.prog w b o c b' o' c' k k' h h'
  go_enter Try.func139, Try.ntmps139
  go_wp2
  rw [run_callFunc_extern Try.func159 (by kernel_rfl) (by kernel_rfl) (by kernel_rfl) (e := Extern.BytealgCompare.compare) (by kernel_rfl), hrun]
  simp only [Result.andThen]
  rw [Oper.upon_value]
  go_wp2
  go_ret
  exact ⟨rfl, rfl⟩

def kcmp (a b : Key) : Int := Lib.compareBytes a.1 b.1

theorem key_Cmp_ok (w : World) (a b : Key) : Calls Try.prog 96 #[kv a, kv b] w fun e w' => e = .returned (.int .i64 (kcmp a b)) ∧ Ext w w' := by
  refine E.calls_of_RL Try.func96 rfl Try.ntmps96 (Nat.le_of_ble_eq_true rfl) ?_
  refine E.RL_seq ?_
  refine E.RL_region ?_
  refine E.OW_box (v := .agg (kl a).toArray) (cs := kl a) rfl rfl rfl (fun b1 w2 hb3 x4 hz5 hr6 ht7 => ?_)
  have ht8 : World.there w2 b1 0 16 := by rw [kl_len] at ht7; exact ht7
  refine E.OW_box (v := .agg (kl b).toArray) (cs := kl b) rfl rfl rfl (fun b9 w10 hb11 x12 hz13 hr14 ht15 => ?_)
  have x16 := E.Ext.trans x4 x12
  have ht17 : World.there w10 b9 0 16 := by rw [kl_len] at ht15; exact ht15
  refine E.OW_val (v := .int .i64 0) rfl (E.r_assign rfl) rfl ?_
  refine E.OW_nil ?_
  refine E.nx_normal ?_
  refine E.RL_seq ?_
  refine E.RL_draw (fun w_ => E.Ext w10 w_) (by kernel_rfl) (fuel := 4) (listed := #[false, false, false, false]) rfl rfl ?_
  obtain ⟨w18, x19e⟩ : ∃ y, y = World.drew w10 := ⟨_, rfl⟩
  rw [← x19e]
  have x19 : E.Ext w10 w18 := by rw [x19e]; exact E.Ext.drew _
  clear x19e
  have x20 := E.Ext.trans x16 x19
  have x21 := E.Ext.trans x12 x19
  refine E.DW_take 0 (v := .slice (some ⟨b1, 0, none⟩) 16 16) rfl (by kernel_rfl) (by kernel_rfl) (by kernel_rfl) (listed' := #[true, false, false, false]) rfl rfl x19 (fun w_ hS => E.r_sliceA rfl Try.underlying24 ⟨_, ts5⟩) rfl ?_
  refine E.DW_take 1 (v := .slice (some ⟨b9, 0, none⟩) 16 16) rfl (by kernel_rfl) (by kernel_rfl) (by kernel_rfl) (listed' := #[true, true, false, false]) rfl rfl x19 (fun w_ hS => E.r_sliceA rfl Try.underlying24 ⟨_, ts5⟩) rfl ?_
  refine E.DW_call 2 rfl (by kernel_rfl) (listed' := #[true, true, true, false]) rfl (j := 0) (d := 0) (b := true) (want := true) (.inl rfl) (E.r_call Try.func139 rfl rfl (E.args2 rfl rfl)) rfl ((bytes_Compare_ok w18 b1 0 16 b9 0 16 a b (E.ext_range hr6 x21) (E.ext_range hr14 x19)).mono ?_)
  rintro _ _ ⟨rfl, rfl⟩
  refine ⟨_, rfl, x19, ?_⟩
  refine E.DW_take 3 (v := .int .i64 (Lib.compareBytes a.1 b.1)) rfl (by kernel_rfl) (by kernel_rfl) (by kernel_rfl) (listed' := #[true, true, true, true]) rfl rfl x19 (fun w_ hS => E.r_assign rfl) rfl ?_
  refine E.DW_done (by kernel_rfl) ?_
  refine E.nx_normal ?_
  refine E.RL_ret ?_
  refine E.post_ret (E.res1 rfl) ?_
  exact ⟨rfl, by assumption⟩

theorem cmp_at (l m : List UInt8) : ∀ k, k < l.length → k < m.length → l.take k = m.take k →
    Lib.compareBytes l m = if l.getD k 0 < m.getD k 0 then -1 else if m.getD k 0 < l.getD k 0 then 1 else Lib.compareBytes (l.drop (k + 1)) (m.drop (k + 1)) := by
  induction l generalizing m with
  | nil => intro k h; simp at h
  | cons a l ih =>
    intro k h1 h2 h
    cases m with
    | nil => simp at h2
    | cons b m =>
      cases k with
      | zero => simp [Lib.compareBytes]
      | succ k =>
        simp only [List.take_succ_cons, List.cons.injEq] at h
        obtain ⟨rfl, h⟩ := h
        have := ih m k (by simpa using h1) (by simpa using h2) h
        simp only [Lib.compareBytes, UInt8.lt_irrefl, if_false, List.getD_cons_succ, List.drop_succ_cons]
        exact this
theorem cmp_refl (l : List UInt8) : Lib.compareBytes l l = 0 := by
  induction l with
  | nil => rfl
  | cons a l ih => simp [Lib.compareBytes, ih]
theorem take_succ_eq {l m : List UInt8} {k : Nat} (h1 : k < l.length) (h2 : k < m.length) (h : l.take k = m.take k) (he : l.getD k 0 = m.getD k 0) : l.take (k + 1) = m.take (k + 1) := by
  rw [List.take_succ_eq_append_getElem h1, List.take_succ_eq_append_getElem h2, h]
  simp only [List.getD_eq_getElem?_getD, List.getElem?_eq_getElem h1, List.getElem?_eq_getElem h2, Option.getD_some] at he
  rw [he]
theorem ref_Cmp_ok (w : World) (a b : Key) : Calls Try.prog 99 #[kv a, kv b] w fun e w' => e = .returned (.int .i64 (kcmp a b)) ∧ Ext w w' := by
  have la := a.2
  have lb := b.2
  refine E.calls_of_RL Try.func99 rfl Try.ntmps99 (Nat.le_of_ble_eq_true rfl) ?_
  refine E.RL_seq ?_
  refine E.RL_region ?_
  refine E.OW_box (v := .agg (kl a).toArray) (cs := kl a) rfl rfl rfl (fun b1 w2 hb3 x4 hz5 hr6 ht7 => ?_)
  have ht8 : World.there w2 b1 0 16 := by rw [kl_len] at ht7; exact ht7
  refine E.OW_box (v := .agg (kl b).toArray) (cs := kl b) rfl rfl rfl (fun b9 w10 hb11 x12 hz13 hr14 ht15 => ?_)
  have x16 := E.Ext.trans x4 x12
  have ht17 : World.there w10 b9 0 16 := by rw [kl_len] at ht15; exact ht15
  refine E.OW_val (v := .int .i64 0) rfl (E.r_assign rfl) rfl ?_
  refine E.OW_nil ?_
  refine E.nx_normal ?_
  refine E.RL_seq ?_
  refine E.RL_seq ?_
  refine E.RL_region ?_
  refine E.OW_val (v := .int .i64 0) rfl (E.r_assign rfl) rfl ?_
  refine E.OW_nil ?_
  refine E.nx_normal ?_
  refine E.RL_block ?_
  refine E.RL_loopg (fun m_ (k : Nat) ρ_ w_ => m_ = 16 - k ∧ ρ_ 2 = .pointer (some ⟨b1, 0, none⟩) ∧ ρ_ 3 = .pointer (some ⟨b9, 0, none⟩) ∧ ρ_ 5 = .int .i64 ((k : Nat) : Int) ∧ E.Ext w10 w_ ∧ k ≤ 16 ∧ a.1.take k = b.1.take k) _ (0) ⟨rfl, rfl, rfl, rfl, (E.Ext.refl _), ⟨by omega, rfl⟩⟩ ?_
  rintro _ k r19 w18 ⟨rfl, e2_r19, e3_r19, e5_r19, x20, hinv_r19⟩
  have hinv := hinv_r19
  have x21 := E.Ext.trans x16 x20
  have x22 := E.Ext.trans x12 x20
  obtain ⟨hk, he⟩ := hinv
  refine E.RL_seq ?_
  refine E.RL_seq ?_
  refine E.RL_region ?_
  refine E.OW_val (v := .int .i64 ((k : Nat) : Int)) rfl (E.r_move e5_r19) rfl ?_
  refine E.OW_val (v := .bool (decide (((k : Nat) : Int) < 16))) rfl (E.r_lss rfl rfl) rfl ?_
  refine E.OW_nil ?_
  refine E.nx_normal ?_
  refine E.RL_cond rfl (fun h1 => ?_) (fun h1 => ?_)
  · skip
    have h1' := of_decide_eq_true h1
    have ca := cmp_at a.1 b.1 k (by omega) (by omega) he
    refine E.RL_skip ?_
    refine E.nx_normal ?_
    refine E.RL_seq ?_
    refine E.RL_block ?_
    refine E.RL_seq ?_
    refine E.RL_seq ?_
    refine E.RL_draw (fun w_ => E.Ext w18 w_) (by kernel_rfl) (fuel := 7) (listed := #[false, false, false, false, false, false, false]) rfl rfl ?_
    obtain ⟨w23, x24e⟩ : ∃ y, y = World.drew w18 := ⟨_, rfl⟩
    rw [← x24e]
    have x24 : E.Ext w18 w23 := by rw [x24e]; exact E.Ext.drew _
    clear x24e
    have x25 := E.Ext.trans x21 x24
    have x26 := E.Ext.trans x22 x24
    have x27 := E.Ext.trans x20 x24
    refine E.DW_take 0 (v := .int .i64 ((k : Nat) : Int)) rfl (by kernel_rfl) (by kernel_rfl) (by kernel_rfl) (listed' := #[true, false, false, false, false, false, false]) rfl rfl x24 (fun w_ hS => E.r_move e5_r19) rfl ?_
    refine E.DW_take 1 (v := .pointer (some ⟨b1, 0 + k, none⟩)) rfl (by kernel_rfl) (by kernel_rfl) (by kernel_rfl) (listed' := #[true, true, false, false, false, false, false]) rfl rfl x24 (fun w_ hS => E.r_indexA1 e2_r19 rfl Try.underlying24 ts5 (by omega)) rfl ?_
    refine E.DW_take 2 (v := .int .u8 (((a.1.getD k 0).toNat : Nat) : Int)) rfl (by kernel_rfl) (by kernel_rfl) (by kernel_rfl) (listed' := #[true, true, true, false, false, false, false]) rfl rfl x24 (fun w_ hS => E.r_load rfl (E.ld1 Try.underlying5 rfl (E.ext_range hr6 (E.Ext.trans x22 hS) k _ (kl_get a k (by omega))))) rfl ?_
    refine E.DW_take 3 (v := .int .i64 ((k : Nat) : Int)) rfl (by kernel_rfl) (by kernel_rfl) (by kernel_rfl) (listed' := #[true, true, true, true, false, false, false]) rfl rfl x24 (fun w_ hS => E.r_move e5_r19) rfl ?_
    refine E.DW_take 4 (v := .pointer (some ⟨b9, 0 + k, none⟩)) rfl (by kernel_rfl) (by kernel_rfl) (by kernel_rfl) (listed' := #[true, true, true, true, true, false, false]) rfl rfl x24 (fun w_ hS => E.r_indexA1 e3_r19 rfl Try.underlying24 ts5 (by omega)) rfl ?_
    refine E.DW_take 5 (v := .int .u8 (((b.1.getD k 0).toNat : Nat) : Int)) rfl (by kernel_rfl) (by kernel_rfl) (by kernel_rfl) (listed' := #[true, true, true, true, true, true, false]) rfl rfl x24 (fun w_ hS => E.r_load rfl (E.ld1 Try.underlying5 rfl (E.ext_range hr14 (E.Ext.trans x20 hS) k _ (kl_get b k (by omega))))) rfl ?_
    refine E.DW_take 6 (v := .bool (decide ((((a.1.getD k 0).toNat : Nat) : Int) < (((b.1.getD k 0).toNat : Nat) : Int)))) rfl (by kernel_rfl) (by kernel_rfl) (by kernel_rfl) (listed' := #[true, true, true, true, true, true, true]) rfl rfl x24 (fun w_ hS => E.r_lss rfl rfl) rfl ?_
    refine E.DW_done (by kernel_rfl) ?_
    refine E.nx_normal ?_
    refine E.RL_cond rfl (fun h2 => ?_) (fun h2 => ?_)
    · skip
      have h2' := of_decide_eq_true h2
      refine E.RL_seq ?_
      refine E.RL_region ?_
      refine E.OW_val (v := .int .i64 (-1)) rfl (E.r_assign rfl) rfl ?_
      refine E.OW_nil ?_
      refine E.nx_normal ?_
      refine E.RL_ret ?_
      refine E.nx_ret ?_
      refine E.blk_ret ?_
      refine E.nx_ret ?_
      refine E.nx_ret ?_
      refine E.blk_ret ?_
      refine E.nx_ret ?_
      refine E.post_ret (E.res1 rfl) ?_
      refine ⟨?_, by assumption⟩
      rw [kcmp, ca, if_pos (by rw [UInt8.lt_iff_toNat_lt]; omega)]
      rfl
    · skip
      have h2' := of_decide_eq_false h2
      refine E.RL_skip ?_
      refine E.nx_normal ?_
      refine E.RL_seq ?_
      refine E.RL_draw (fun w_ => E.Ext w23 w_) (by kernel_rfl) (fuel := 7) (listed := #[false, false, false, false, false, false, false]) rfl rfl ?_
      obtain ⟨w28, x29e⟩ : ∃ y, y = World.drew w23 := ⟨_, rfl⟩
      rw [← x29e]
      have x29 : E.Ext w23 w28 := by rw [x29e]; exact E.Ext.drew _
      clear x29e
      have x30 := E.Ext.trans x25 x29
      have x31 := E.Ext.trans x26 x29
      have x32 := E.Ext.trans x27 x29
      have x33 := E.Ext.trans x24 x29
      refine E.DW_take 0 (v := .int .i64 ((k : Nat) : Int)) rfl (by kernel_rfl) (by kernel_rfl) (by kernel_rfl) (listed' := #[true, false, false, false, false, false, false]) rfl rfl x29 (fun w_ hS => E.r_move e5_r19) rfl ?_
      refine E.DW_take 1 (v := .pointer (some ⟨b1, 0 + k, none⟩)) rfl (by kernel_rfl) (by kernel_rfl) (by kernel_rfl) (listed' := #[true, true, false, false, false, false, false]) rfl rfl x29 (fun w_ hS => E.r_indexA1 e2_r19 rfl Try.underlying24 ts5 (by omega)) rfl ?_
      refine E.DW_take 2 (v := .int .u8 (((a.1.getD k 0).toNat : Nat) : Int)) rfl (by kernel_rfl) (by kernel_rfl) (by kernel_rfl) (listed' := #[true, true, true, false, false, false, false]) rfl rfl x29 (fun w_ hS => E.r_load rfl (E.ld1 Try.underlying5 rfl (E.ext_range hr6 (E.Ext.trans x26 hS) k _ (kl_get a k (by omega))))) rfl ?_
      refine E.DW_take 3 (v := .int .i64 ((k : Nat) : Int)) rfl (by kernel_rfl) (by kernel_rfl) (by kernel_rfl) (listed' := #[true, true, true, true, false, false, false]) rfl rfl x29 (fun w_ hS => E.r_move e5_r19) rfl ?_
      refine E.DW_take 4 (v := .pointer (some ⟨b9, 0 + k, none⟩)) rfl (by kernel_rfl) (by kernel_rfl) (by kernel_rfl) (listed' := #[true, true, true, true, true, false, false]) rfl rfl x29 (fun w_ hS => E.r_indexA1 e3_r19 rfl Try.underlying24 ts5 (by omega)) rfl ?_
      refine E.DW_take 5 (v := .int .u8 (((b.1.getD k 0).toNat : Nat) : Int)) rfl (by kernel_rfl) (by kernel_rfl) (by kernel_rfl) (listed' := #[true, true, true, true, true, true, false]) rfl rfl x29 (fun w_ hS => E.r_load rfl (E.ld1 Try.underlying5 rfl (E.ext_range hr14 (E.Ext.trans x27 hS) k _ (kl_get b k (by omega))))) rfl ?_
      refine E.DW_take 6 (v := .bool (decide ((((b.1.getD k 0).toNat : Nat) : Int) < (((a.1.getD k 0).toNat : Nat) : Int)))) rfl (by kernel_rfl) (by kernel_rfl) (by kernel_rfl) (listed' := #[true, true, true, true, true, true, true]) rfl rfl x29 (fun w_ hS => E.r_gtr rfl rfl) rfl ?_
      refine E.DW_done (by kernel_rfl) ?_
      refine E.nx_normal ?_
      refine E.RL_cond rfl (fun h3 => ?_) (fun h3 => ?_)
      · skip
        have h3' := of_decide_eq_true h3
        refine E.RL_seq ?_
        refine E.RL_region ?_
        refine E.OW_val (v := .int .i64 1) rfl (E.r_assign rfl) rfl ?_
        refine E.OW_nil ?_
        refine E.nx_normal ?_
        refine E.RL_ret ?_
        refine E.blk_ret ?_
        refine E.nx_ret ?_
        refine E.nx_ret ?_
        refine E.blk_ret ?_
        refine E.nx_ret ?_
        refine E.post_ret (E.res1 rfl) ?_
        refine ⟨?_, by assumption⟩
        rw [kcmp, ca, if_neg (by rw [UInt8.lt_iff_toNat_lt]; omega), if_pos (by rw [UInt8.lt_iff_toNat_lt]; omega)]
        rfl
      · skip
        have h3' := of_decide_eq_false h3
        refine E.RL_skip ?_
        refine E.blk_normal ?_
        refine E.nx_normal ?_
        refine E.RL_region ?_
        refine E.OW_val (v := .int .i64 ((k : Nat) : Int)) rfl (E.r_move e5_r19) rfl ?_
        refine E.OW_val (v := .int .i64 ((k + 1 : Nat) : Int)) rfl (E.r_add rfl rfl (by rw [E.wrap_i64 (by omega) (by omega)]; omega)) rfl ?_
        refine E.OW_val (v := .int .i64 ((k + 1 : Nat) : Int)) rfl (E.r_assign rfl) rfl ?_
        refine E.OW_nil ?_
        refine E.nx_normal ?_
        refine ⟨_, (k + 1), ?_, rfl, e2_r19, e3_r19, rfl, x32, ⟨by omega, take_succ_eq (by omega) (by omega) he (UInt8.toNat_inj.mp (by omega))⟩⟩
        omega
  · skip
    have h1' := of_decide_eq_false h1
    refine E.RL_exit ?_
    refine E.nx_exit ?_
    refine E.nx_exit ?_
    refine E.blk_eq ?_
    refine E.nx_normal ?_
    refine E.RL_seq ?_
    refine E.RL_region ?_
    refine E.OW_val (v := .int .i64 0) rfl (E.r_assign rfl) rfl ?_
    refine E.OW_nil ?_
    refine E.nx_normal ?_
    refine E.RL_ret ?_
    refine E.post_ret (E.res1 rfl) ?_
    refine ⟨?_, by assumption⟩
    have : k = 16 := by omega
    subst this
    rw [List.take_of_length_le (by omega), List.take_of_length_le (by omega)] at he
    rw [kcmp, he, cmp_refl]
    rfl

/-- No byte but noughts behind a nought; e: one has come. -/
def zfree : Bool → List UInt8 → Bool
  | _, [] => true
  | e, c :: l => if c = 0 then zfree true l else if e then false else zfree e l
def kgood (k : Key) : Bool := zfree false k.1 && decide (k.1.getD 0 0 ≠ 0)
theorem drop_at {l : List UInt8} {k : Nat} (h : k < l.length) : l.drop k = l.getD k 0 :: l.drop (k + 1) := by
  rw [List.drop_eq_getElem_cons h]; simp [List.getD, h]
theorem ref_Good_ok (w : World) (a : Key) : Calls Try.prog 98 #[kv a] w fun e w' => e = .returned (.bool (kgood a)) ∧ Ext w w' := by
  have la := a.2
  refine E.calls_of_RL Try.func98 rfl Try.ntmps98 (Nat.le_of_ble_eq_true rfl) ?_
  refine E.RL_seq ?_
  refine E.RL_region ?_
  refine E.OW_box (v := .agg (kl a).toArray) (cs := kl a) rfl rfl rfl (fun b1 w2 hb3 x4 hz5 hr6 ht7 => ?_)
  have ht8 : World.there w2 b1 0 16 := by rw [kl_len] at ht7; exact ht7
  refine E.OW_val (v := .bool false) rfl (E.r_assign rfl) rfl ?_
  refine E.OW_nil ?_
  refine E.nx_normal ?_
  refine E.RL_seq ?_
  refine E.RL_region ?_
  refine E.OW_val (v := .bool false) rfl (E.r_assign rfl) rfl ?_
  refine E.OW_nil ?_
  refine E.nx_normal ?_
  refine E.RL_seq ?_
  refine E.RL_seq ?_
  refine E.RL_region ?_
  refine E.OW_val (v := .int .i64 0) rfl (E.r_assign rfl) rfl ?_
  refine E.OW_nil ?_
  refine E.nx_normal ?_
  refine E.RL_block ?_
  refine E.RL_loopg (fun m_ (g_ : Nat × Bool) ρ_ w_ => match g_ with | ⟨k, e⟩ => m_ = 16 - k ∧ ρ_ 1 = .pointer (some ⟨b1, 0, none⟩) ∧ ρ_ 4 = .int .i64 ((k : Nat) : Int) ∧ ρ_ 3 = .bool e ∧ E.Ext w2 w_ ∧ k ≤ 16 ∧ zfree false a.1 = zfree e (a.1.drop k)) _ ((0, false)) ⟨rfl, rfl, rfl, rfl, (E.Ext.refl _), ⟨by omega, rfl⟩⟩ ?_
  rintro _ (⟨k, e⟩) r10 w9 ⟨rfl, e1_r10, e4_r10, e3_r10, x11, hinv_r10⟩
  have hinv := hinv_r10
  have x12 := E.Ext.trans x4 x11
  obtain ⟨hk, he⟩ := hinv
  refine E.RL_seq ?_
  refine E.RL_seq ?_
  refine E.RL_region ?_
  refine E.OW_val (v := .int .i64 ((k : Nat) : Int)) rfl (E.r_move e4_r10) rfl ?_
  refine E.OW_val (v := .bool (decide (((k : Nat) : Int) < 16))) rfl (E.r_lss rfl rfl) rfl ?_
  refine E.OW_nil ?_
  refine E.nx_normal ?_
  refine E.RL_cond rfl (fun h1 => ?_) (fun h1 => ?_)
  · skip
    have h1' := of_decide_eq_true h1
    have hd := drop_at (l := a.1) (k := k) (by omega)
    refine E.RL_skip ?_
    refine E.nx_normal ?_
    refine E.RL_seq ?_
    refine E.RL_block ?_
    refine E.RL_seq ?_
    refine E.RL_region ?_
    refine E.OW_val (v := .int .i64 ((k : Nat) : Int)) rfl (E.r_move e4_r10) rfl ?_
    refine E.OW_val (v := .pointer (some ⟨b1, 0 + k, none⟩)) rfl (E.r_indexA1 e1_r10 rfl Try.underlying24 ts5 (by omega)) rfl ?_
    refine E.OW_val (v := .int .u8 (((a.1.getD k 0).toNat : Nat) : Int)) rfl (E.r_load rfl (E.ld1 Try.underlying5 rfl (E.ext_range hr6 x11 k _ (kl_get a k (by omega))))) rfl ?_
    refine E.OW_val (v := .bool (decide ((((a.1.getD k 0).toNat : Nat) : Int) = 0))) rfl (E.r_eql rfl rfl) rfl ?_
    refine E.OW_nil ?_
    refine E.nx_normal ?_
    refine E.RL_cond rfl (fun h2 => ?_) (fun h2 => ?_)
    · skip
      have h2' := of_decide_eq_true h2
      refine E.RL_region ?_
      refine E.OW_val (v := .bool true) rfl (E.r_assign rfl) rfl ?_
      refine E.OW_nil ?_
      refine E.blk_normal ?_
      refine E.nx_normal ?_
      refine E.RL_region ?_
      refine E.OW_val (v := .int .i64 ((k : Nat) : Int)) rfl (E.r_move e4_r10) rfl ?_
      refine E.OW_val (v := .int .i64 ((k + 1 : Nat) : Int)) rfl (E.r_add rfl rfl (by rw [E.wrap_i64 (by omega) (by omega)]; omega)) rfl ?_
      refine E.OW_val (v := .int .i64 ((k + 1 : Nat) : Int)) rfl (E.r_assign rfl) rfl ?_
      refine E.OW_nil ?_
      refine E.nx_normal ?_
      refine ⟨_, (k + 1, true), ?_, rfl, e1_r10, rfl, rfl, x11, ⟨by omega, by rw [he, hd, zfree, if_pos (UInt8.toNat_inj.mp (by simpa using h2'))]⟩⟩
      omega
    · skip
      have h2' := of_decide_eq_false h2
      have hn : a.1.getD k 0 ≠ 0 := fun hz => h2' (by rw [hz]; rfl)
      refine E.RL_seq ?_
      refine E.RL_region ?_
      refine E.OW_val (v := .bool e) rfl (E.r_move e3_r10) rfl ?_
      refine E.OW_nil ?_
      refine E.nx_normal ?_
      refine E.RL_cond rfl (fun h3 => ?_) (fun h3 => ?_)
      · skip
        refine E.RL_seq ?_
        refine E.RL_region ?_
        refine E.OW_val (v := .bool false) rfl (E.r_assign rfl) rfl ?_
        refine E.OW_nil ?_
        refine E.nx_normal ?_
        refine E.RL_ret ?_
        refine E.blk_ret ?_
        refine E.nx_ret ?_
        refine E.nx_ret ?_
        refine E.blk_ret ?_
        refine E.nx_ret ?_
        refine E.post_ret (E.res1 rfl) ?_
        refine ⟨?_, by assumption⟩
        rw [kgood, he, hd, zfree, if_neg hn, if_pos h3]
        rfl
      · skip
        refine E.RL_skip ?_
        refine E.blk_normal ?_
        refine E.nx_normal ?_
        refine E.RL_region ?_
        refine E.OW_val (v := .int .i64 ((k : Nat) : Int)) rfl (E.r_move e4_r10) rfl ?_
        refine E.OW_val (v := .int .i64 ((k + 1 : Nat) : Int)) rfl (E.r_add rfl rfl (by rw [E.wrap_i64 (by omega) (by omega)]; omega)) rfl ?_
        refine E.OW_val (v := .int .i64 ((k + 1 : Nat) : Int)) rfl (E.r_assign rfl) rfl ?_
        refine E.OW_nil ?_
        refine E.nx_normal ?_
        refine ⟨_, (k + 1, e), ?_, rfl, e1_r10, rfl, e3_r10, x11, ⟨by omega, by rw [he, hd, zfree, if_neg hn, h3]; rfl⟩⟩
        omega
  · skip
    have h1' := of_decide_eq_false h1
    have hk : k = 16 := by omega
    subst hk
    refine E.RL_exit ?_
    refine E.nx_exit ?_
    refine E.nx_exit ?_
    refine E.blk_eq ?_
    refine E.nx_normal ?_
    refine E.RL_seq ?_
    refine E.RL_region ?_
    refine E.OW_val (v := .pointer (some ⟨b1, 0 + 0, none⟩)) rfl (E.r_indexA1 e1_r10 rfl Try.underlying24 ts5 (by omega)) rfl ?_
    refine E.OW_val (v := .int .u8 (((a.1.getD 0 0).toNat : Nat) : Int)) rfl (E.r_load rfl (E.ld1 Try.underlying5 rfl (E.ext_range hr6 x11 0 _ (kl_get a 0 (by omega))))) rfl ?_
    refine E.OW_val (v := .bool (decide ((((a.1.getD 0 0).toNat : Nat) : Int) ≠ 0))) rfl (E.r_neq rfl rfl) rfl ?_
    refine E.OW_val (v := .bool (decide ((((a.1.getD 0 0).toNat : Nat) : Int) ≠ 0))) rfl (E.r_assign rfl) rfl ?_
    refine E.OW_nil ?_
    refine E.nx_normal ?_
    refine E.RL_ret ?_
    refine E.post_ret (E.res1 rfl) ?_
    refine ⟨?_, by assumption⟩
    rw [kgood, he, List.drop_of_length_le (by omega), zfree]
    simp only [Bool.true_and]
    refine congrArg (fun b => Ending.returned (.bool b)) ?_
    rw [decide_eq_decide]
    constructor
    · intro h hz; exact h (by rw [hz]; rfl)
    · intro h hz; exact h (UInt8.toNat_inj.mp (by simpa using hz))

/-- The bytes ahead of the first nought. -/
def ktext (k : Key) : List UInt8 := k.1.takeWhile (· != 0)
theorem takeWhile_at {l : List UInt8} {k : Nat} (h : k < l.length) (ht : l.takeWhile (· != 0) = l.take k ++ (l.drop k).takeWhile (· != 0)) (hn : l.getD k 0 ≠ 0) :
    l.takeWhile (· != 0) = l.take (k + 1) ++ (l.drop (k + 1)).takeWhile (· != 0) := by
  rw [drop_at h, List.takeWhile_cons_of_pos (by simpa using hn)] at ht
  rw [ht, List.take_succ_eq_append_getElem h]
  simp only [List.append_assoc, List.cons_append, List.nil_append, List.getD_eq_getElem?_getD, List.getElem?_eq_getElem h, Option.getD_some]
theorem key_text_ok (w : World) (a : Key) : Calls Try.prog 138 #[kv a] w fun e w' => e = .returned (.string ⟨(ktext a).toArray⟩) ∧ Ext w w' := by
  have la := a.2
  refine E.calls_of_RL Try.func138 rfl Try.ntmps138 (Nat.le_of_ble_eq_true rfl) ?_
  refine E.RL_seq ?_
  refine E.RL_region ?_
  refine E.OW_box (v := .agg (kl a).toArray) (cs := kl a) rfl rfl rfl (fun b1 w2 hb3 x4 hz5 hr6 ht7 => ?_)
  have ht8 : World.there w2 b1 0 16 := by rw [kl_len] at ht7; exact ht7
  refine E.OW_val (v := .string (⟨#[]⟩)) rfl (E.r_assign rfl) rfl ?_
  refine E.OW_nil ?_
  refine E.nx_normal ?_
  refine E.RL_seq ?_
  refine E.RL_region ?_
  refine E.OW_val (v := .int .i64 0) rfl (E.r_assign rfl) rfl ?_
  refine E.OW_nil ?_
  refine E.nx_normal ?_
  refine E.RL_seq ?_
  refine E.RL_block ?_
  refine E.RL_loopg (fun m_ (k : Nat) ρ_ w_ => m_ = 16 - k ∧ ρ_ 1 = .pointer (some ⟨b1, 0, none⟩) ∧ ρ_ 2 = .string (⟨#[]⟩) ∧ ρ_ 3 = .int .i64 ((k : Nat) : Int) ∧ E.Ext w2 w_ ∧ k ≤ 16 ∧ ktext a = a.1.take k ++ (a.1.drop k).takeWhile (· != 0)) _ (0) ⟨rfl, rfl, rfl, rfl, (E.Ext.refl _), ⟨by omega, by simp [ktext]⟩⟩ ?_
  rintro _ k r10 w9 ⟨rfl, e1_r10, e2_r10, e3_r10, x11, hinv_r10⟩
  have hinv := hinv_r10
  have x12 := E.Ext.trans x4 x11
  obtain ⟨hk, he⟩ := hinv
  refine E.RL_seq ?_
  refine E.RL_seq ?_
  refine E.RL_region ?_
  refine E.OW_val (v := .int .i64 ((k : Nat) : Int)) rfl (E.r_move e3_r10) rfl ?_
  refine E.OW_val (v := .bool (decide (((k : Nat) : Int) < 16))) rfl (E.r_lss rfl rfl) rfl ?_
  refine E.OW_val (v := .bool (decide (((k : Nat) : Int) < 16))) rfl (E.r_move rfl) rfl ?_
  rcases E.bool_cases (decide (((k : Nat) : Int) < 16)) with h1 | h1
  · skip
    have h1' := of_decide_eq_true h1
    refine E.OW_yes rfl rfl rfl h1 ?_
    refine E.OW_val (v := .int .i64 ((k : Nat) : Int)) rfl (E.r_move e3_r10) rfl ?_
    refine E.OW_yes rfl rfl rfl h1 ?_
    refine E.OW_val (v := .pointer (some ⟨b1, 0 + k, none⟩)) rfl (E.r_indexA1 e1_r10 rfl Try.underlying24 ts5 (by omega)) rfl ?_
    refine E.OW_yes rfl rfl rfl h1 ?_
    refine E.OW_val (v := .int .u8 (((a.1.getD k 0).toNat : Nat) : Int)) rfl (E.r_load rfl (E.ld1 Try.underlying5 rfl (E.ext_range hr6 x11 k _ (kl_get a k (by omega))))) rfl ?_
    refine E.OW_yes rfl rfl rfl h1 ?_
    refine E.OW_val (v := .bool (decide ((((a.1.getD k 0).toNat : Nat) : Int) ≠ 0))) rfl (E.r_neq rfl rfl) rfl ?_
    refine E.OW_val (v := .bool (decide ((((a.1.getD k 0).toNat : Nat) : Int) ≠ 0))) rfl (E.r_pick_t rfl h1 rfl) rfl ?_
    refine E.OW_nil ?_
    refine E.nx_normal ?_
    refine E.RL_cond rfl (fun h2 => ?_) (fun h2 => ?_)
    · skip
      have h2' := of_decide_eq_true h2
      refine E.RL_skip ?_
      refine E.nx_normal ?_
      refine E.RL_block ?_
      refine E.RL_region ?_
      refine E.OW_val (v := .int .i64 ((k : Nat) : Int)) rfl (E.r_move e3_r10) rfl ?_
      refine E.OW_val (v := .int .i64 ((k + 1 : Nat) : Int)) rfl (E.r_add rfl rfl (by rw [E.wrap_i64 (by omega) (by omega)]; omega)) rfl ?_
      refine E.OW_val (v := .int .i64 ((k + 1 : Nat) : Int)) rfl (E.r_assign rfl) rfl ?_
      refine E.OW_nil ?_
      refine E.blk_normal ?_
      refine E.nx_normal ?_
      refine ⟨_, (k + 1), ?_, rfl, e1_r10, e2_r10, rfl, x11, ⟨by omega, takeWhile_at (by omega) he (fun hz => h2' (by rw [hz]; rfl))⟩⟩
      omega
    · skip
      have h2' := of_decide_eq_false h2
      have hz : a.1.getD k 0 = 0 := UInt8.toNat_inj.mp (by simpa using h2')
      refine E.RL_exit ?_
      refine E.nx_exit ?_
      refine E.nx_exit ?_
      refine E.blk_eq ?_
      refine E.nx_normal ?_
      refine E.RL_seq ?_
      refine E.RL_region ?_
      refine E.OW_val (v := .int .i64 ((k : Nat) : Int)) rfl (E.r_move e3_r10) rfl ?_
      refine E.OW_val (v := .slice (some ⟨b1, 0, none⟩) k 16) rfl (E.r_sliceAh e1_r10 rfl (by omega) Try.underlying24 ⟨_, ts5⟩) rfl ?_
      refine E.OW_val (v := .string (⟨(a.1.take k).toArray⟩)) rfl (E.r_convBS (l := a.1.take k) rfl (by simp; omega) Try.underlying198 Try.underlying5 Try.underlying9 (range_take (E.ext_range hr6 x11) k)) rfl ?_
      refine E.OW_val (v := .string (⟨(a.1.take k).toArray⟩)) rfl (E.r_assign rfl) rfl ?_
      refine E.OW_nil ?_
      refine E.nx_normal ?_
      refine E.RL_ret ?_
      refine E.post_ret (E.res1 rfl) ?_
      refine ⟨?_, by assumption⟩
      rw [he, drop_at (by omega), List.takeWhile_cons_of_neg (by rw [hz]; simp), List.append_nil]
      rfl
  · skip
    have h1' := of_decide_eq_false h1
    have hk : k = 16 := by omega
    refine E.OW_no rfl rfl rfl h1 rfl ?_
    refine E.OW_no rfl rfl rfl h1 rfl ?_
    refine E.OW_no rfl rfl rfl h1 rfl ?_
    refine E.OW_no rfl rfl rfl h1 rfl ?_
    refine E.OW_val (v := .bool false) rfl (E.r_pick_f rfl h1 rfl) rfl ?_
    refine E.OW_nil ?_
    refine E.nx_normal ?_
    refine E.RL_false rfl rfl ?_
    refine E.RL_exit ?_
    refine E.nx_exit ?_
    refine E.nx_exit ?_
    refine E.blk_eq ?_
    refine E.nx_normal ?_
    refine E.RL_seq ?_
    refine E.RL_region ?_
    refine E.OW_val (v := .int .i64 ((k : Nat) : Int)) rfl (E.r_move e3_r10) rfl ?_
    refine E.OW_val (v := .slice (some ⟨b1, 0, none⟩) k 16) rfl (E.r_sliceAh e1_r10 rfl (by omega) Try.underlying24 ⟨_, ts5⟩) rfl ?_
    refine E.OW_val (v := .string (⟨(a.1.take k).toArray⟩)) rfl (E.r_convBS (l := a.1.take k) rfl (by simp; omega) Try.underlying198 Try.underlying5 Try.underlying9 (range_take (E.ext_range hr6 x11) k)) rfl ?_
    refine E.OW_val (v := .string (⟨(a.1.take k).toArray⟩)) rfl (E.r_assign rfl) rfl ?_
    refine E.OW_nil ?_
    refine E.nx_normal ?_
    refine E.RL_ret ?_
    refine E.post_ret (E.res1 rfl) ?_
    subst hk
    refine ⟨?_, by assumption⟩
    rw [he, List.drop_of_length_le (by omega), List.takeWhile_nil, List.append_nil]
    rfl

set_option maxRecDepth 100000 in
theorem IndexByte0_ok (w : World) (s : ByteArray) (c : Int) : Calls Try.prog 184 #[.string s, .int .u8 c] w fun e w' => e = .returned (.int .i64 (Lib.indexByte s.data.toList c.toNat.toUInt8)) ∧ w = w' := by
  go_enter Try.func184, Try.ntmps184
  go_wp2
  rw [run_callFunc_extern Try.func203 (by kernel_rfl) (by kernel_rfl) (by kernel_rfl) (e := Extern.BytealgIndexByte.indexByte) (by kernel_rfl), Lib.run_indexByteString]
  simp only [Result.andThen]
  rw [Oper.upon_value]
  go_wp2
  go_ret
  exact ⟨rfl, rfl⟩
theorem IndexByte_ok (w : World) (s : ByteArray) (c : Int) : Calls Try.prog 158 #[.string s, .int .u8 c] w fun e w' => e = .returned (.int .i64 (Lib.indexByte s.data.toList c.toNat.toUInt8)) ∧ w = w' := by
  refine E.calls_of_RL Try.func158 rfl Try.ntmps158 (Nat.le_of_ble_eq_true rfl) ?_
  refine E.RL_seq ?_
  refine E.RL_region ?_
  refine E.OW_val (v := .int .i64 0) rfl (E.r_assign rfl) rfl ?_
  refine E.OW_nil ?_
  refine E.nx_normal ?_
  refine E.RL_seq ?_
  refine E.RL_region ?_
  refine E.OW_val (v := .string s) rfl (E.r_move rfl) rfl ?_
  refine E.OW_val (v := .int .u8 c) rfl (E.r_move rfl) rfl ?_
  refine E.OW_call rfl (E.r_call Try.func184 rfl rfl (E.args2 rfl rfl)) rfl ((IndexByte0_ok w s c).mono ?_)
  rintro _ _ ⟨rfl, rfl⟩
  refine ⟨_, rfl, ?_⟩
  refine E.OW_val (v := .int .i64 (Lib.indexByte s.data.toList c.toNat.toUInt8)) rfl (E.r_assign rfl) rfl ?_
  refine E.OW_nil ?_
  refine E.nx_normal ?_
  refine E.RL_ret ?_
  refine E.post_ret (E.res1 rfl) ?_
  exact ⟨rfl, rfl⟩

theorem indexByte_neg (l : List UInt8) (c : UInt8) : Lib.indexByte l c < 0 ↔ c ∉ l := by
  induction l with
  | nil => simp [Lib.indexByte]
  | cons b l ih =>
    have hg := Lib.indexByte_ge l c
    simp only [Lib.indexByte]
    by_cases hb : (b == c) = true
    · have : b = c := by simpa using hb
      simp [this]
    · have hb' : b ≠ c := by simpa using hb
      simp only [hb, Bool.false_eq_true, if_false, List.mem_cons, not_or]
      split
      · rename_i h
        have h : Lib.indexByte l c = -1 := by simpa using h
        have := ih.1 (by omega)
        simp [this, Ne.symm hb']
      · rename_i h
        have h : Lib.indexByte l c ≠ -1 := by simpa using h
        constructor
        · intro hl; omega
        · intro hl
          have := ih.2 hl.2
          omega
/-- A text that is no key's. -/
def kbad (l : List UInt8) : Bool := decide (l = [] ∨ 16 < l.length ∨ 0 ∈ l)
def kpad (l : List UInt8) : Key := if h : l.length ≤ 16 then ⟨l ++ List.replicate (16 - l.length) 0, by simp; omega⟩ else zeroK
def kofK (s : ByteArray) : Key := if kbad s.data.toList then zeroK else kpad s.data.toList
def kofE (s : ByteArray) : Int := if kbad s.data.toList then 1 else 0
theorem stored_pad (w : World) (b : Nat) (l : List UInt8) (hl : l.length ≤ 16) (hr : w.rangeAt b 0 (kl zeroK)) (ht : w.there b 0 16) :
    E.Stored w b 0 (kl (kpad l)) (w.setCells b 0 (l.map fun x => Value.int .u8 (x.toNat : Int))) := by
  obtain ⟨h1, h2, h3, h4, h5⟩ := E.stored w b 0 (l.map fun x => Value.int .u8 (x.toNat : Int)) (by intro j hj; exact ht j (by simp at hj; omega))
  refine ⟨h1, h2, ?_, h4, fun b' o' cs' hap h => h5 b' o' cs' (hap.imp id (Or.imp id fun h => by simp at h ⊢; omega)) h⟩
  intro j v hj
  have hk : (kpad l).1 = l ++ List.replicate (16 - l.length) 0 := by simp [kpad, hl]
  rw [kl, hk, List.map_append, List.getElem?_append] at hj
  simp only [List.length_map] at hj
  split at hj
  · exact h3 j v hj
  · rename_i hlt
    have h6 := h5 b j [v] (by simp; omega) (by
      intro i u hi
      cases i with
      | zero =>
        simp at hi; subst hi
        have := hr j v (by
          simp only [kl, zeroK, List.getElem?_map, List.getElem?_replicate] at hj ⊢
          split at hj
          · rw [if_pos (by omega)]; exact hj
          · simp at hj)
        simpa using this
      | succ i => simp at hi)
    have := h6 0 v rfl
    simpa using this
theorem key_Of_ok (w : World) (s : ByteArray) : Calls Try.prog 137 #[.string s] w fun e w' => e = .returned (.tuple #[kv (kofK s), .int .i64 (kofE s)]) ∧ Ext w w' := by
  have hsz : s.size = s.data.toList.length := rfl
  have he : s = ⟨#[]⟩ ↔ s.data.toList = [] := by
    constructor
    · rintro rfl; rfl
    · intro h; apply ByteArray.ext; apply Array.ext'; simpa using h
  have hi := indexByte_neg s.data.toList 0
  refine E.calls_of_RL Try.func137 rfl Try.ntmps137 (Nat.le_of_ble_eq_true rfl) ?_
  refine E.RL_seq ?_
  refine E.RL_region ?_
  refine E.OW_alloc (z := .agg (kl zeroK).toArray) (cs := kl zeroK) (by kernel_rfl) rfl rfl (fun b1 w2 hb3 x4 hz5 hr6 ht7 => ?_)
  have ht8 : World.there w2 b1 0 16 := by rw [kl_len] at ht7; exact ht7
  refine E.OW_val (v := .int .i64 0) rfl (E.r_assign rfl) rfl ?_
  refine E.OW_nil ?_
  refine E.nx_normal ?_
  refine E.RL_seq ?_
  refine E.RL_region ?_
  refine E.OW_alloc (z := .agg (kl zeroK).toArray) (cs := kl zeroK) (by kernel_rfl) rfl rfl (fun b9 w10 hb11 x12 hz13 hr14 ht15 => ?_)
  have x16 := E.Ext.trans x4 x12
  have ht17 : World.there w10 b9 0 16 := by rw [kl_len] at ht15; exact ht15
  refine E.OW_nil ?_
  refine E.nx_normal ?_
  refine E.RL_seq ?_
  refine E.RL_seq ?_
  refine E.RL_region ?_
  refine E.OW_val (v := .string s) rfl (E.r_move rfl) rfl ?_
  refine E.OW_val (v := .bool (decide (s = ⟨#[]⟩))) rfl (E.r_eqlS rfl rfl) rfl ?_
  refine E.OW_val (v := .bool (decide (s = ⟨#[]⟩))) rfl (E.r_move rfl) rfl ?_
  rcases E.bool_cases (decide (s = ⟨#[]⟩)) with h1 | h1
  · skip
    have h1' := of_decide_eq_true h1
    have hb : kbad s.data.toList = true := by simp only [kbad, decide_eq_true_eq]; exact Or.inl (he.1 h1')
    refine E.OW_no rfl rfl rfl h1 rfl ?_
    refine E.OW_no rfl rfl rfl h1 rfl ?_
    refine E.OW_no rfl rfl rfl h1 rfl ?_
    refine E.OW_val (v := .bool true) rfl (E.r_pick_t rfl h1 rfl) rfl ?_
    refine E.OW_val (v := .bool true) rfl (E.r_move rfl) rfl ?_
    refine E.OW_no rfl rfl rfl rfl rfl ?_
    refine E.OW_no rfl rfl rfl rfl rfl ?_
    refine E.OW_no rfl rfl rfl rfl rfl ?_
    refine E.OW_val (v := .bool true) rfl (E.r_pick_t rfl rfl rfl) rfl ?_
    refine E.OW_nil ?_
    refine E.nx_normal ?_
    refine E.RL_true rfl rfl ?_
    refine E.RL_seq ?_
    refine E.RL_region ?_
    refine E.OW_val (v := .agg (kl zeroK).toArray) rfl (E.r_load rfl (E.ldk Try.underlying24 rfl (ts24.trans (congrArg some (kl_len _).symm)) (E.ext_range hr14 (E.Ext.refl _)))) rfl ?_
    refine E.OW_stk (cs := kl zeroK) rfl rfl rfl (ts24.trans (congrArg some (kl_len _).symm)) (kl_one _) (by rw [kl_len]; exact (E.ext_there ht8 x12)) rfl (fun w18 hs19 _ => ?_)
    have x20 := hs19.1 _ x16 (by first | omega | (have := (E.Ext.refl _).size; omega))
    have hr21 := hs19.2.2.1
    have ht22 := hs19.2.2.2.1 _ _ _ (E.ext_there ht8 x12)
    have hr23 := hs19.2.2.2.2 _ _ _ (Or.inl (by omega)) (E.ext_range hr14 (E.Ext.refl _))
    have ht24 := hs19.2.2.2.1 _ _ _ (E.ext_there ht17 (E.Ext.refl _))
    refine E.OW_val (v := .int .i64 1) rfl (E.r_assign rfl) rfl ?_
    refine E.OW_nil ?_
    refine E.nx_normal ?_
    refine E.RL_ret ?_
    refine E.nx_ret ?_
    refine E.post_ret (E.res_c1 (a := 2) (t := 24) (u := 3) (p := ⟨b1, 0, none⟩) rfl rfl (E.ldk Try.underlying24 rfl (ts24.trans (congrArg some (kl_len _).symm)) (E.ext_range hr21 (E.Ext.refl _)))) ?_
    exact ⟨by rw [kofK, kofE, hb]; rfl, by assumption⟩
  · skip
    have h1' := of_decide_eq_false h1
    refine E.OW_yes rfl rfl rfl h1 ?_
    refine E.OW_val (v := .string s) rfl (E.r_move rfl) rfl ?_
    refine E.OW_yes rfl rfl rfl h1 ?_
    refine E.OW_val (v := .int .i64 ((s.size : Nat) : Int)) rfl (E.r_lenS Try.underlying9 rfl) rfl ?_
    refine E.OW_yes rfl rfl rfl h1 ?_
    refine E.OW_val (v := .bool (decide (16 < ((s.size : Nat) : Int)))) rfl (E.r_gtr rfl rfl) rfl ?_
    refine E.OW_val (v := .bool (decide (16 < ((s.size : Nat) : Int)))) rfl (E.r_pick_f rfl h1 rfl) rfl ?_
    refine E.OW_val (v := .bool (decide (16 < ((s.size : Nat) : Int)))) rfl (E.r_move rfl) rfl ?_
    rcases E.bool_cases (decide (16 < ((s.size : Nat) : Int))) with h2 | h2
    · skip
      have h2' := of_decide_eq_true h2
      have hb : kbad s.data.toList = true := by simp only [kbad, decide_eq_true_eq]; exact Or.inr (Or.inl (by omega))
      refine E.OW_no rfl rfl rfl h2 rfl ?_
      refine E.OW_no rfl rfl rfl h2 rfl ?_
      refine E.OW_no rfl rfl rfl h2 rfl ?_
      refine E.OW_val (v := .bool true) rfl (E.r_pick_t rfl h2 rfl) rfl ?_
      refine E.OW_nil ?_
      refine E.nx_normal ?_
      refine E.RL_true rfl rfl ?_
      refine E.RL_seq ?_
      refine E.RL_region ?_
      refine E.OW_val (v := .agg (kl zeroK).toArray) rfl (E.r_load rfl (E.ldk Try.underlying24 rfl (ts24.trans (congrArg some (kl_len _).symm)) (E.ext_range hr14 (E.Ext.refl _)))) rfl ?_
      refine E.OW_stk (cs := kl zeroK) rfl rfl rfl (ts24.trans (congrArg some (kl_len _).symm)) (kl_one _) (by rw [kl_len]; exact (E.ext_there ht8 x12)) rfl (fun w25 hs26 _ => ?_)
      have x27 := hs26.1 _ x16 (by first | omega | (have := (E.Ext.refl _).size; omega))
      have hr28 := hs26.2.2.1
      have ht29 := hs26.2.2.2.1 _ _ _ (E.ext_there ht8 x12)
      have hr30 := hs26.2.2.2.2 _ _ _ (Or.inl (by omega)) (E.ext_range hr14 (E.Ext.refl _))
      have ht31 := hs26.2.2.2.1 _ _ _ (E.ext_there ht17 (E.Ext.refl _))
      refine E.OW_val (v := .int .i64 1) rfl (E.r_assign rfl) rfl ?_
      refine E.OW_nil ?_
      refine E.nx_normal ?_
      refine E.RL_ret ?_
      refine E.nx_ret ?_
      refine E.post_ret (E.res_c1 (a := 2) (t := 24) (u := 3) (p := ⟨b1, 0, none⟩) rfl rfl (E.ldk Try.underlying24 rfl (ts24.trans (congrArg some (kl_len _).symm)) (E.ext_range hr28 (E.Ext.refl _)))) ?_
      exact ⟨by rw [kofK, kofE, hb]; rfl, by assumption⟩
    · skip
      have h2' := of_decide_eq_false h2
      refine E.OW_yes rfl rfl rfl h2 ?_
      refine E.OW_val (v := .string s) rfl (E.r_move rfl) rfl ?_
      refine E.OW_yes rfl rfl rfl h2 ?_
      refine E.OW_call rfl (E.r_call Try.func158 rfl rfl (E.args2 rfl rfl)) rfl ((IndexByte_ok w10 s ((0 : Nat) : Int)).mono ?_)
      rintro _ _ ⟨rfl, rfl⟩
      refine ⟨_, rfl, ?_⟩
      refine E.OW_yes rfl rfl rfl h2 ?_
      refine E.OW_val (v := .bool (decide (0 ≤ (Lib.indexByte s.data.toList ((0 : Nat) : Int).toNat.toUInt8)))) rfl (E.r_geq rfl rfl) rfl ?_
      refine E.OW_val (v := .bool (decide (0 ≤ (Lib.indexByte s.data.toList ((0 : Nat) : Int).toNat.toUInt8)))) rfl (E.r_pick_f rfl h2 rfl) rfl ?_
      refine E.OW_nil ?_
      refine E.nx_normal ?_
      refine E.RL_cond rfl (fun h3 => ?_) (fun h3 => ?_)
      · skip
        have h3' := of_decide_eq_true h3
        have hb : kbad s.data.toList = true := by
          simp only [kbad, decide_eq_true_eq]
          refine Or.inr (Or.inr (Decidable.byContradiction fun hc => ?_))
          have := hi.2 hc
          simp at h3'
          omega
        refine E.RL_seq ?_
        refine E.RL_region ?_
        refine E.OW_val (v := .agg (kl zeroK).toArray) rfl (E.r_load rfl (E.ldk Try.underlying24 rfl (ts24.trans (congrArg some (kl_len _).symm)) (E.ext_range hr14 (E.Ext.refl _)))) rfl ?_
        refine E.OW_stk (cs := kl zeroK) rfl rfl rfl (ts24.trans (congrArg some (kl_len _).symm)) (kl_one _) (by rw [kl_len]; exact (E.ext_there ht8 x12)) rfl (fun w34 hs35 _ => ?_)
        have x36 := hs35.1 _ x16 (by first | omega | (have := (E.Ext.refl _).size; omega))
        have hr37 := hs35.2.2.1
        have ht38 := hs35.2.2.2.1 _ _ _ (E.ext_there ht8 x12)
        have hr39 := hs35.2.2.2.2 _ _ _ (Or.inl (by omega)) (E.ext_range hr14 (E.Ext.refl _))
        have ht40 := hs35.2.2.2.1 _ _ _ (E.ext_there ht17 (E.Ext.refl _))
        refine E.OW_val (v := .int .i64 1) rfl (E.r_assign rfl) rfl ?_
        refine E.OW_nil ?_
        refine E.nx_normal ?_
        refine E.RL_ret ?_
        refine E.nx_ret ?_
        refine E.post_ret (E.res_c1 (a := 2) (t := 24) (u := 3) (p := ⟨b1, 0, none⟩) rfl rfl (E.ldk Try.underlying24 rfl (ts24.trans (congrArg some (kl_len _).symm)) (E.ext_range hr37 (E.Ext.refl _)))) ?_
        exact ⟨by rw [kofK, kofE, hb]; rfl, by assumption⟩
      · skip
        have h3' := of_decide_eq_false h3
        have hb : kbad s.data.toList = false := by
          simp only [kbad, decide_eq_false_iff_not, not_or]
          refine ⟨fun h => h1' (he.2 h), by omega, hi.1 ?_⟩
          simp at h3'
          omega
        have hle : s.data.toList.length ≤ 16 := by omega
        refine E.RL_skip ?_
        refine E.nx_normal ?_
        refine E.RL_seq ?_
        refine E.RL_region ?_
        refine E.OW_val (v := .slice (some ⟨b9, 0, none⟩) 16 16) rfl (E.r_sliceA rfl Try.underlying24 ⟨_, ts5⟩) rfl ?_
        refine E.OW_val (v := .string s) rfl (E.r_move rfl) rfl ?_
        have hst := stored_pad w10 b9 s.data.toList hle (E.ext_range hr14 (E.Ext.refl _)) (E.ext_there ht17 (E.Ext.refl _))
        refine E.OW_val rfl (E.r_copy rfl rfl (E.run_copy_str Try.prog _ 198 9 _ 5 _ _ _ _ s Try.underlying198 ts5 (by omega) (fun j hj => (E.ext_there ht17 (E.Ext.refl _)) j (by omega)))) rfl ?_
        generalize hw : World.setCells w10 b9 0 (s.data.toList.map fun x => Value.int .u8 (x.toNat : Int)) = wn at hst ⊢
        have x41 := hst.1 _ x16 (by first | omega | (have := x4.size; omega))
        have x42 := hst.1 _ x12 (by first | omega | (have := (E.Ext.refl _).size; omega))
        have hr43 := hst.2.2.1
        have ht44 := hst.2.2.2.1 _ _ _ (E.ext_there ht17 (E.Ext.refl _))
        refine E.OW_nil ?_
        refine E.nx_normal ?_
        refine E.RL_seq ?_
        refine E.RL_region ?_
        refine E.OW_val (v := .agg (kl (kpad s.data.toList)).toArray) rfl (E.r_load rfl (E.ldk Try.underlying24 rfl (ts24.trans (congrArg some (kl_len _).symm)) (E.ext_range hr43 (E.Ext.refl _)))) rfl ?_
        refine E.OW_stk (cs := kl (kpad s.data.toList)) rfl rfl rfl (ts24.trans (congrArg some (kl_len _).symm)) (kl_one _) (by rw [kl_len]; exact (E.ext_there ht8 x42)) rfl (fun w45 hs46 _ => ?_)
        have x47 := hs46.1 _ x41 (by first | omega | (have := (E.Ext.refl _).size; omega))
        have hr48 := hs46.2.2.1
        have ht49 := hs46.2.2.2.1 _ _ _ (E.ext_there ht8 x42)
        have hr50 := hs46.2.2.2.2 _ _ _ (Or.inl (by omega)) (E.ext_range hr43 (E.Ext.refl _))
        have ht51 := hs46.2.2.2.1 _ _ _ (E.ext_there ht44 (E.Ext.refl _))
        refine E.OW_val (v := .int .i64 0) rfl (E.r_assign rfl) rfl ?_
        refine E.OW_nil ?_
        refine E.nx_normal ?_
        refine E.RL_ret ?_
        refine E.post_ret (E.res_c1 (a := 2) (t := 24) (u := 3) (p := ⟨b1, 0, none⟩) rfl rfl (E.ldk Try.underlying24 rfl (ts24.trans (congrArg some (kl_len _).symm)) (E.ext_range hr48 (E.Ext.refl _)))) ?_
        exact ⟨by rw [kofK, kofE, hb]; rfl, by assumption⟩

theorem ktext_len (k : Key) : (ktext k).length ≤ 16 := by
  have := (List.takeWhile_prefix (· != (0 : UInt8)) (l := k.1)).length_le
  rw [k.2] at this; exact this
theorem ktext_no0 (k : Key) : (0 : UInt8) ∉ ktext k := fun h => by
  have := List.all_takeWhile (p := (· != (0 : UInt8))) (l := k.1)
  rw [List.all_eq_true] at this
  exact absurd (this 0 h) (by simp)

/-- A text's key, if it is one's. -/
theorem zfree_true (l : List UInt8) : zfree true l = true ↔ l = List.replicate l.length 0 := by
  induction l with
  | nil => simp [zfree]
  | cons c l ih =>
    simp only [zfree, List.length_cons, List.replicate_succ, List.cons.injEq]
    by_cases hc : c = 0
    · simp [hc, ih]
    · simp [hc]
theorem zfree_false (l : List UInt8) : zfree false l = true ↔ l = l.takeWhile (· != 0) ++ List.replicate (l.length - (l.takeWhile (· != 0)).length) 0 := by
  induction l with
  | nil => simp [zfree]
  | cons c l ih =>
    simp only [zfree]
    by_cases hc : c = 0
    · subst hc
      rw [if_pos rfl, zfree_true, List.takeWhile_cons_of_neg (by simp)]
      simp [List.replicate_succ]
    · rw [if_neg hc, List.takeWhile_cons_of_pos (by simpa using hc)]
      simp only [Bool.false_eq_true, if_false, ih, List.length_cons, List.cons_append, List.cons.injEq, true_and]
      rw [show l.length + 1 - ((l.takeWhile (· != 0)).length + 1) = l.length - (l.takeWhile (· != 0)).length by omega]
theorem kgood_iff (k : Key) : kgood k = true ↔ ktext k ≠ [] ∧ kpad (ktext k) = k := by
  have hl := ktext_len k
  have h0 : k.1.getD 0 0 ≠ 0 ↔ ktext k ≠ [] := by
    obtain ⟨l, h⟩ := k
    cases l with
    | nil => simp at h
    | cons c l =>
      by_cases hc : c = 0
      · subst hc; simp [ktext]
      · simp [ktext, hc]
  have hp : kpad (ktext k) = k ↔ zfree false k.1 = true := by
    rw [zfree_false, Subtype.ext_iff, kpad, dif_pos hl, k.2]
    constructor
    · intro h; exact h.symm
    · intro h; exact h.symm
  rw [kgood, Bool.and_eq_true, decide_eq_true_eq, h0, hp]
  exact And.comm
theorem kbad_text (k : Key) : kbad (ktext k) = decide (ktext k = []) := by
  have h1 := ktext_len k
  have h2 := ktext_no0 k
  rw [kbad, decide_eq_decide]
  constructor
  · rintro (h | h | h)
    · exact h
    · omega
    · exact absurd h h2
  · intro h; exact Or.inl h
theorem kofE_text (a : Key) : kofE ⟨(ktext a).toArray⟩ = if ktext a = [] then 1 else 0 := by
  have : (⟨(ktext a).toArray⟩ : ByteArray).data.toList = ktext a := by simp
  simp [kofE, this, kbad_text]
theorem kofK_text (a : Key) (h : ktext a ≠ []) : kofK ⟨(ktext a).toArray⟩ = kpad (ktext a) := by
  have : (⟨(ktext a).toArray⟩ : ByteArray).data.toList = ktext a := by simp
  simp [kofK, this, kbad_text, h]
theorem key_Good_ok (w : World) (a : Key) : Calls Try.prog 95 #[kv a] w fun e w' => e = .returned (.bool (kgood a)) ∧ Ext w w' := by
  have hg := kgood_iff a
  refine E.calls_of_RL Try.func95 rfl Try.ntmps95 (Nat.le_of_ble_eq_true rfl) ?_
  refine E.RL_seq ?_
  refine E.RL_region ?_
  refine E.OW_box (v := .agg (kl a).toArray) (cs := kl a) rfl rfl rfl (fun b1 w2 hb3 x4 hz5 hr6 ht7 => ?_)
  have ht8 : World.there w2 b1 0 16 := by rw [kl_len] at ht7; exact ht7
  refine E.OW_val (v := .bool false) rfl (E.r_assign rfl) rfl ?_
  refine E.OW_nil ?_
  refine E.nx_normal ?_
  refine E.RL_seq ?_
  refine E.RL_region ?_
  refine E.OW_val (v := .agg (kl a).toArray) rfl (E.r_load rfl (E.ldk Try.underlying24 rfl (ts24.trans (congrArg some (kl_len _).symm)) (E.ext_range hr6 (E.Ext.refl _)))) rfl ?_
  refine E.OW_call rfl (E.r_call Try.func138 rfl rfl (E.args1 rfl)) rfl ((key_text_ok w2 a).mono ?_)
  rintro _ w9 ⟨rfl, x10⟩
  refine ⟨_, rfl, ?_⟩
  have x11 := E.Ext.trans x4 x10
  refine E.OW_call rfl (E.r_call Try.func137 rfl rfl (E.args1 rfl)) rfl ((key_Of_ok w9 (⟨(ktext a).toArray⟩)).mono ?_)
  rintro _ w12 ⟨rfl, x13⟩
  refine ⟨_, rfl, ?_⟩
  have x14 := E.Ext.trans x11 x13
  have x15 := E.Ext.trans x10 x13
  refine E.OW_val (v := .tuple #[.agg (kl (kofK (⟨(ktext a).toArray⟩))).toArray, .int .i64 (kofE (⟨(ktext a).toArray⟩))]) rfl (E.r_move rfl) rfl ?_
  refine E.OW_val (v := .agg (kl (kofK (⟨(ktext a).toArray⟩))).toArray) rfl (E.r_extract rfl rfl) rfl ?_
  refine E.OW_val (v := .int .i64 (kofE (⟨(ktext a).toArray⟩))) rfl (E.r_extract rfl rfl) rfl ?_
  refine E.OW_alloc (z := .agg (kl zeroK).toArray) (cs := kl zeroK) (by kernel_rfl) rfl rfl (fun b16 w17 hb18 x19 hz20 hr21 ht22 => ?_)
  have x23 := E.Ext.trans x14 x19
  have x24 := E.Ext.trans x15 x19
  have x25 := E.Ext.trans x13 x19
  have ht26 : World.there w17 b16 0 16 := by rw [kl_len] at ht22; exact ht22
  refine E.OW_stk (cs := kl (kofK (⟨(ktext a).toArray⟩))) rfl rfl rfl (ts24.trans (congrArg some (kl_len _).symm)) (kl_one _) (by rw [kl_len]; exact (E.ext_there ht26 (E.Ext.refl _))) rfl (fun w27 hs28 _ => ?_)
  have x29 := hs28.1 _ x23 (by first | omega | (have := x14.size; omega))
  have x30 := hs28.1 _ x24 (by first | omega | (have := x15.size; omega))
  have x31 := hs28.1 _ x25 (by first | omega | (have := x13.size; omega))
  have x32 := hs28.1 _ x19 (by first | omega | (have := (E.Ext.refl _).size; omega))
  have hr33 := hs28.2.2.1
  have ht34 := hs28.2.2.2.1 _ _ _ (E.ext_there ht26 (E.Ext.refl _))
  refine E.OW_val (v := .int .i64 (kofE (⟨(ktext a).toArray⟩))) rfl (E.r_assign rfl) rfl ?_
  refine E.OW_nil ?_
  refine E.nx_normal ?_
  refine E.RL_seq ?_
  refine E.RL_region ?_
  refine E.OW_val (v := .int .i64 (kofE (⟨(ktext a).toArray⟩))) rfl (E.r_move rfl) rfl ?_
  refine E.OW_val (v := .bool (decide ((kofE (⟨(ktext a).toArray⟩)) = 0))) rfl (E.r_eql rfl rfl) rfl ?_
  refine E.OW_val (v := .bool (decide ((kofE (⟨(ktext a).toArray⟩)) = 0))) rfl (E.r_move rfl) rfl ?_
  rcases E.bool_cases (decide ((kofE (⟨(ktext a).toArray⟩)) = 0)) with h1 | h1
  · skip
    have h1' := of_decide_eq_true h1
    have hn : ktext a ≠ [] := by
      intro hz
      rw [kofE_text, if_pos hz] at h1'
      cases h1'
    have hk := kofK_text a hn
    refine E.OW_yes rfl rfl rfl h1 ?_
    refine E.OW_val (v := .agg (kl (kofK (⟨(ktext a).toArray⟩))).toArray) rfl (E.r_load rfl (E.ldk Try.underlying24 rfl (ts24.trans (congrArg some (kl_len _).symm)) (E.ext_range hr33 (E.Ext.refl _)))) rfl ?_
    refine E.OW_yes rfl rfl rfl h1 ?_
    refine E.OW_val (v := .agg (kl a).toArray) rfl (E.r_load rfl (E.ldk Try.underlying24 rfl (ts24.trans (congrArg some (kl_len _).symm)) (E.ext_range hr6 x30))) rfl ?_
    refine E.OW_yes rfl rfl rfl h1 ?_
    refine E.OW_val (v := .bool (decide ((kofK (⟨(ktext a).toArray⟩)) = a))) rfl (r_eqlK rfl rfl) rfl ?_
    refine E.OW_val (v := .bool (decide ((kofK (⟨(ktext a).toArray⟩)) = a))) rfl (E.r_pick_t rfl h1 rfl) rfl ?_
    refine E.OW_val (v := .bool (decide ((kofK (⟨(ktext a).toArray⟩)) = a))) rfl (E.r_assign rfl) rfl ?_
    refine E.OW_nil ?_
    refine E.nx_normal ?_
    refine E.RL_ret ?_
    refine E.post_ret (E.res1 rfl) ?_
    refine ⟨?_, by assumption⟩
    refine congrArg (fun b => Ending.returned (.bool b)) ?_
    rw [Bool.eq_iff_iff, hg, decide_eq_true_eq, hk]
    exact ⟨fun h => ⟨hn, h⟩, fun h => h.2⟩
  · skip
    have h1' := of_decide_eq_false h1
    have hz : ktext a = [] := by
      refine Decidable.byContradiction fun hz => h1' ?_
      rw [kofE_text, if_neg hz]
    refine E.OW_no rfl rfl rfl h1 rfl ?_
    refine E.OW_no rfl rfl rfl h1 rfl ?_
    refine E.OW_no rfl rfl rfl h1 rfl ?_
    refine E.OW_val (v := .bool false) rfl (E.r_pick_f rfl h1 rfl) rfl ?_
    refine E.OW_val (v := .bool false) rfl (E.r_assign rfl) rfl ?_
    refine E.OW_nil ?_
    refine E.nx_normal ?_
    refine E.RL_ret ?_
    refine E.post_ret (E.res1 rfl) ?_
    refine ⟨?_, by assumption⟩
    refine congrArg (fun b => Ending.returned (.bool b)) ?_
    cases hq : kgood a with
    | false => rfl
    | true => exact absurd hz (hg.1 hq).1

theorem kpad_val {l : List UInt8} (h : l.length ≤ 16) : (kpad l).1 = l ++ List.replicate (16 - l.length) 0 := by simp [kpad, h]
/-- One byte more of a text that is being laid. -/
theorem stored_byte {w w' : World} {b k : Nat} {l : List UInt8} {c : UInt8} (hk : k < 16) (hc : l[k]? = some c) (hr : w.rangeAt b 0 (kl (kpad (l.take k))))
    (h : E.Stored w b (0 + k) [.int .u8 c.toNat] w') : w'.rangeAt b 0 (kl (kpad (l.take (k + 1)))) := by
  have hlt := (List.getElem?_eq_some_iff.1 hc).1
  have hl1 : (l.take k).length = k := by simp; omega
  have hl2 : (l.take (k + 1)).length = k + 1 := by simp; omega
  obtain ⟨_, _, h3, _, h5⟩ := h
  intro j v hj
  rw [kl, kpad_val (by omega), hl2, List.take_succ_eq_append_getElem hlt] at hj
  simp only [List.map_append, List.map_cons, List.map_nil, List.append_assoc, List.map_replicate] at hj
  have hck : l[k] = c := (List.getElem?_eq_some_iff.1 hc).2
  rw [hck] at hj
  by_cases hjk : j = k
  · subst hjk
    rw [List.getElem?_append_right (by simp; omega)] at hj
    have e : j - (List.map (fun b => Value.int .u8 (b.toNat : Int)) (l.take j)).length = 0 := by simp; omega
    rw [e] at hj
    have := h3 0 _ rfl
    simp at hj
    rw [← hj]
    simpa using this
  · have old : (kl (kpad (l.take k)))[j]? = some v := by
      rw [kl, kpad_val (by omega), hl1]
      simp only [List.map_append, List.map_replicate]
      by_cases hlt2 : j < k
      · rw [List.getElem?_append_left (by simp; omega)] at hj ⊢
        exact hj
      · rw [List.getElem?_append_right (by simp; omega)] at hj ⊢
        simp only [List.length_map, hl1] at hj ⊢
        obtain ⟨m, rfl⟩ : ∃ m, j = k + 1 + m := ⟨j - (k + 1), by omega⟩
        rw [show k + 1 + m - k = m + 1 by omega] at hj ⊢
        simp only [List.cons_append, List.nil_append, List.getElem?_cons_succ, List.getElem?_replicate] at hj ⊢
        split at hj
        · rw [if_pos (by omega)]; exact hj
        · simp at hj
    have := h5 b j [v] (by simp; omega) (by
      intro i u hi
      cases i with
      | zero => simp at hi; subst hi; have := hr j v old; simpa using this
      | succ i => simp at hi)
    have := this 0 v rfl
    simpa using this
theorem ref_Of_ok (w : World) (s : ByteArray) : Calls Try.prog 110 #[.string s] w fun e w' => e = .returned (.tuple #[kv (kofK s), .bool (!kbad s.data.toList)]) ∧ Ext w w' := by
  have hsz : s.size = s.data.toList.length := rfl
  refine E.calls_of_RL Try.func110 rfl Try.ntmps110 (Nat.le_of_ble_eq_true rfl) ?_
  refine E.RL_seq ?_
  refine E.RL_region ?_
  refine E.OW_alloc (z := .agg (kl zeroK).toArray) (cs := kl zeroK) (by kernel_rfl) rfl rfl (fun b1 w2 hb3 x4 hz5 hr6 ht7 => ?_)
  have ht8 : World.there w2 b1 0 16 := by rw [kl_len] at ht7; exact ht7
  refine E.OW_val (v := .bool false) rfl (E.r_assign rfl) rfl ?_
  refine E.OW_nil ?_
  refine E.nx_normal ?_
  refine E.RL_seq ?_
  refine E.RL_region ?_
  refine E.OW_val (v := .agg (kl zeroK).toArray) rfl (E.r_build0 (z := .agg (kl zeroK).toArray) (fun _ => by kernel_rfl)) rfl ?_
  refine E.OW_alloc (z := .agg (kl zeroK).toArray) (cs := kl zeroK) (by kernel_rfl) rfl rfl (fun b9 w10 hb11 x12 hz13 hr14 ht15 => ?_)
  have x16 := E.Ext.trans x4 x12
  have ht17 : World.there w10 b9 0 16 := by rw [kl_len] at ht15; exact ht15
  refine E.OW_stk (cs := kl zeroK) rfl rfl rfl (ts24.trans (congrArg some (kl_len _).symm)) (kl_one _) (by rw [kl_len]; exact (E.ext_there ht17 (E.Ext.refl _))) rfl (fun w18 hs19 _ => ?_)
  have x20 := hs19.1 _ x16 (by first | omega | (have := x4.size; omega))
  have x21 := hs19.1 _ x12 (by first | omega | (have := (E.Ext.refl _).size; omega))
  have hr22 := hs19.2.2.1
  have ht23 := hs19.2.2.2.1 _ _ _ (E.ext_there ht17 (E.Ext.refl _))
  refine E.OW_nil ?_
  refine E.nx_normal ?_
  refine E.RL_seq ?_
  refine E.RL_seq ?_
  refine E.RL_region ?_
  refine E.OW_val (v := .string s) rfl (E.r_move rfl) rfl ?_
  refine E.OW_val (v := .int .i64 ((s.size : Nat) : Int)) rfl (E.r_lenS Try.underlying9 rfl) rfl ?_
  refine E.OW_val (v := .bool (decide (((s.size : Nat) : Int) < 1))) rfl (E.r_lss rfl rfl) rfl ?_
  refine E.OW_val (v := .bool (decide (((s.size : Nat) : Int) < 1))) rfl (E.r_move rfl) rfl ?_
  rcases E.bool_cases (decide (((s.size : Nat) : Int) < 1)) with h1 | h1
  · skip
    have h1' := of_decide_eq_true h1
    have hb : kbad s.data.toList = true := by simp only [kbad, decide_eq_true_eq]; exact Or.inl (List.length_eq_zero_iff.1 (by omega))
    refine E.OW_no rfl rfl rfl h1 rfl ?_
    refine E.OW_no rfl rfl rfl h1 rfl ?_
    refine E.OW_no rfl rfl rfl h1 rfl ?_
    refine E.OW_val (v := .bool true) rfl (E.r_pick_t rfl h1 rfl) rfl ?_
    refine E.OW_nil ?_
    refine E.nx_normal ?_
    refine E.RL_true rfl rfl ?_
    refine E.RL_seq ?_
    refine E.RL_region ?_
    refine E.OW_val (v := .agg (kl zeroK).toArray) rfl (E.r_load rfl (E.ldk Try.underlying24 rfl (ts24.trans (congrArg some (kl_len _).symm)) (E.ext_range hr22 (E.Ext.refl _)))) rfl ?_
    refine E.OW_stk (cs := kl zeroK) rfl rfl rfl (ts24.trans (congrArg some (kl_len _).symm)) (kl_one _) (by rw [kl_len]; exact (E.ext_there ht8 x21)) rfl (fun w24 hs25 _ => ?_)
    have x26 := hs25.1 _ x20 (by first | omega | (have := (E.Ext.refl _).size; omega))
    have hr27 := hs25.2.2.1
    have ht28 := hs25.2.2.2.1 _ _ _ (E.ext_there ht8 x21)
    have hr29 := hs25.2.2.2.2 _ _ _ (Or.inl (by omega)) (E.ext_range hr22 (E.Ext.refl _))
    have ht30 := hs25.2.2.2.1 _ _ _ (E.ext_there ht23 (E.Ext.refl _))
    refine E.OW_val (v := .bool false) rfl (E.r_assign rfl) rfl ?_
    refine E.OW_nil ?_
    refine E.nx_normal ?_
    refine E.RL_ret ?_
    refine E.nx_ret ?_
    refine E.post_ret (E.res_c1 (a := 2) (t := 24) (u := 3) (p := ⟨b1, 0, none⟩) rfl rfl (E.ldk Try.underlying24 rfl (ts24.trans (congrArg some (kl_len _).symm)) (E.ext_range hr27 (E.Ext.refl _)))) ?_
    exact ⟨by rw [kofK, hb]; rfl, by assumption⟩
  · skip
    have h1' := of_decide_eq_false h1
    refine E.OW_yes rfl rfl rfl h1 ?_
    refine E.OW_val (v := .string s) rfl (E.r_move rfl) rfl ?_
    refine E.OW_yes rfl rfl rfl h1 ?_
    refine E.OW_val (v := .int .i64 ((s.size : Nat) : Int)) rfl (E.r_lenS Try.underlying9 rfl) rfl ?_
    refine E.OW_yes rfl rfl rfl h1 ?_
    refine E.OW_val (v := .bool (decide (16 < ((s.size : Nat) : Int)))) rfl (E.r_gtr rfl rfl) rfl ?_
    refine E.OW_val (v := .bool (decide (16 < ((s.size : Nat) : Int)))) rfl (E.r_pick_f rfl h1 rfl) rfl ?_
    refine E.OW_nil ?_
    refine E.nx_normal ?_
    refine E.RL_cond rfl (fun h2 => ?_) (fun h2 => ?_)
    · skip
      have h2' := of_decide_eq_true h2
      have hb : kbad s.data.toList = true := by simp only [kbad, decide_eq_true_eq]; exact Or.inr (Or.inl (by omega))
      refine E.RL_seq ?_
      refine E.RL_region ?_
      refine E.OW_val (v := .agg (kl zeroK).toArray) rfl (E.r_load rfl (E.ldk Try.underlying24 rfl (ts24.trans (congrArg some (kl_len _).symm)) (E.ext_range hr22 (E.Ext.refl _)))) rfl ?_
      refine E.OW_stk (cs := kl zeroK) rfl rfl rfl (ts24.trans (congrArg some (kl_len _).symm)) (kl_one _) (by rw [kl_len]; exact (E.ext_there ht8 x21)) rfl (fun w31 hs32 _ => ?_)
      have x33 := hs32.1 _ x20 (by first | omega | (have := (E.Ext.refl _).size; omega))
      have hr34 := hs32.2.2.1
      have ht35 := hs32.2.2.2.1 _ _ _ (E.ext_there ht8 x21)
      have hr36 := hs32.2.2.2.2 _ _ _ (Or.inl (by omega)) (E.ext_range hr22 (E.Ext.refl _))
      have ht37 := hs32.2.2.2.1 _ _ _ (E.ext_there ht23 (E.Ext.refl _))
      refine E.OW_val (v := .bool false) rfl (E.r_assign rfl) rfl ?_
      refine E.OW_nil ?_
      refine E.nx_normal ?_
      refine E.RL_ret ?_
      refine E.nx_ret ?_
      refine E.post_ret (E.res_c1 (a := 2) (t := 24) (u := 3) (p := ⟨b1, 0, none⟩) rfl rfl (E.ldk Try.underlying24 rfl (ts24.trans (congrArg some (kl_len _).symm)) (E.ext_range hr34 (E.Ext.refl _)))) ?_
      exact ⟨by rw [kofK, hb]; rfl, by assumption⟩
    · skip
      have h2' := of_decide_eq_false h2
      refine E.RL_skip ?_
      refine E.nx_normal ?_
      refine E.RL_seq ?_
      refine E.RL_seq ?_
      refine E.RL_region ?_
      refine E.OW_val (v := .int .i64 0) rfl (E.r_assign rfl) rfl ?_
      refine E.OW_nil ?_
      refine E.nx_normal ?_
      refine E.RL_block ?_
      refine E.RL_loopg (fun m_ (k : Nat) ρ_ w_ => m_ = s.size - k ∧ ρ_ 0 = .string s ∧ ρ_ 2 = .pointer (some ⟨b1, 0, none⟩) ∧ ρ_ 4 = .pointer (some ⟨b9, 0, none⟩) ∧ ρ_ 5 = .int .i64 ((k : Nat) : Int) ∧ E.Ext w2 w_ ∧ k ≤ s.size ∧ (0 ∉ s.data.toList.take k) ∧ w_.rangeAt b9 0 (kl (kpad (s.data.toList.take k))) ∧ w_.there b9 0 16) _ (0) ⟨rfl, rfl, rfl, rfl, rfl, x21, ⟨by omega, by simp, (E.ext_range hr22 (E.Ext.refl _)), (E.ext_there ht23 (E.Ext.refl _))⟩⟩ ?_
      rintro _ k r39 w38 ⟨rfl, e0_r39, e2_r39, e4_r39, e5_r39, x40, hinv_r39⟩
      have hinv := hinv_r39
      have x41 := E.Ext.trans x4 x40
      obtain ⟨hk, hn, hr, ht⟩ := hinv
      refine E.RL_seq ?_
      refine E.RL_seq ?_
      refine E.RL_region ?_
      refine E.OW_val (v := .int .i64 ((k : Nat) : Int)) rfl (E.r_move e5_r39) rfl ?_
      refine E.OW_val (v := .string s) rfl (E.r_move e0_r39) rfl ?_
      refine E.OW_val (v := .int .i64 ((s.size : Nat) : Int)) rfl (E.r_lenS Try.underlying9 rfl) rfl ?_
      refine E.OW_val (v := .bool (decide (((k : Nat) : Int) < ((s.size : Nat) : Int)))) rfl (E.r_lss rfl rfl) rfl ?_
      refine E.OW_nil ?_
      refine E.nx_normal ?_
      refine E.RL_cond rfl (fun h3 => ?_) (fun h3 => ?_)
      · skip
        have h3' := of_decide_eq_true h3
        refine E.RL_skip ?_
        refine E.nx_normal ?_
        refine E.RL_seq ?_
        refine E.RL_block ?_
        refine E.RL_seq ?_
        refine E.RL_seq ?_
        refine E.RL_region ?_
        refine E.OW_val (v := .string s) rfl (E.r_move e0_r39) rfl ?_
        refine E.OW_val (v := .int .i64 ((k : Nat) : Int)) rfl (E.r_move e5_r39) rfl ?_
        obtain ⟨y42, hy43⟩ : ∃ y, (s).data.toList[k]? = some y := ⟨_, List.getElem?_eq_getElem (by omega)⟩
        refine E.OW_val (v := .int .u8 ((y42.toNat : Nat) : Int)) rfl (E.r_indexN rfl rfl Try.underlying9 hy43) rfl ?_
        refine E.OW_val (v := .bool (decide (((y42.toNat : Nat) : Int) = 0))) rfl (E.r_eql rfl rfl) rfl ?_
        refine E.OW_nil ?_
        refine E.nx_normal ?_
        refine E.RL_cond rfl (fun h4 => ?_) (fun h4 => ?_)
        · skip
          have h4' := of_decide_eq_true h4
          have hb : kbad s.data.toList = true := by
            simp only [kbad, decide_eq_true_eq]
            refine Or.inr (Or.inr ?_)
            have : y42 = 0 := UInt8.toNat_inj.mp (by simpa using h4')
            rw [← this]
            exact List.mem_of_getElem? hy43
          refine E.RL_seq ?_
          refine E.RL_region ?_
          refine E.OW_val (v := .agg (kl zeroK).toArray) rfl (E.r_build0 (z := .agg (kl zeroK).toArray) (fun _ => by kernel_rfl)) rfl ?_
          refine E.OW_stk (cs := kl zeroK) e2_r39 rfl rfl (ts24.trans (congrArg some (kl_len _).symm)) (kl_one _) (by rw [kl_len]; exact (E.ext_there ht8 x40)) rfl (fun w44 hs45 _ => ?_)
          have x46 := hs45.1 _ x41 (by first | omega | (have := (E.Ext.refl _).size; omega))
          have hr47 := hs45.2.2.1
          have ht48 := hs45.2.2.2.1 _ _ _ (E.ext_there ht8 x40)
          have hr49 := hs45.2.2.2.2 _ _ _ (Or.inl (by omega)) (E.ext_range hr (E.Ext.refl _))
          have ht50 := hs45.2.2.2.1 _ _ _ (E.ext_there ht (E.Ext.refl _))
          refine E.OW_val (v := .bool false) rfl (E.r_assign rfl) rfl ?_
          refine E.OW_nil ?_
          refine E.nx_normal ?_
          refine E.RL_ret ?_
          refine E.nx_ret ?_
          refine E.blk_ret ?_
          refine E.nx_ret ?_
          refine E.nx_ret ?_
          refine E.blk_ret ?_
          refine E.nx_ret ?_
          refine E.post_ret (E.res_c1 (a := 2) (t := 24) (u := 3) (p := ⟨b1, 0, none⟩) rfl e2_r39 (E.ldk Try.underlying24 rfl (ts24.trans (congrArg some (kl_len _).symm)) (E.ext_range hr47 (E.Ext.refl _)))) ?_
          exact ⟨by rw [kofK, hb]; rfl, by assumption⟩
        · skip
          have h4' := of_decide_eq_false h4
          refine E.RL_skip ?_
          refine E.nx_normal ?_
          refine E.RL_region ?_
          refine E.OW_val (v := .int .i64 ((k : Nat) : Int)) rfl (E.r_move e5_r39) rfl ?_
          refine E.OW_val (v := .string s) rfl (E.r_move e0_r39) rfl ?_
          refine E.OW_val (v := .int .i64 ((k : Nat) : Int)) rfl (E.r_move e5_r39) rfl ?_
          refine E.OW_val (v := .int .u8 ((y42.toNat : Nat) : Int)) rfl (E.r_indexN rfl rfl Try.underlying9 hy43) rfl ?_
          refine E.OW_val (v := .pointer (some ⟨b9, 0 + k, none⟩)) rfl (E.r_indexA1 e4_r39 rfl Try.underlying24 ts5 (by omega)) rfl ?_
          refine E.OW_st1 rfl rfl ts5 rfl (fun j hj => by have := (E.ext_there ht (E.Ext.refl _)) (k + j) (by omega); rw [← Nat.add_assoc] at this; exact this) rfl (fun wn hst _ => ?_)
          have hr2 := stored_byte (by omega) hy43 (E.ext_range hr (E.Ext.refl _)) hst
          have hst2 : E.Stored w38 b9 0 (kl (kpad (s.data.toList.take (k + 1)))) wn := ⟨hst.1, hst.2.1, hr2, hst.2.2.2.1, fun b' o' cs' hap h => hst.2.2.2.2 b' o' cs' (hap.imp id (Or.imp (fun h => by omega) fun h => by simp at h ⊢; omega)) h⟩
          have x51 := hst2.1 _ x41 (by first | omega | (have := x4.size; omega))
          have x52 := hst2.1 _ x40 (by first | omega | (have := (E.Ext.refl _).size; omega))
          have hr53 := hst2.2.2.1
          have ht54 := hst2.2.2.2.1 _ _ _ (E.ext_there ht (E.Ext.refl _))
          refine E.OW_nil ?_
          refine E.blk_normal ?_
          refine E.nx_normal ?_
          refine E.RL_region ?_
          refine E.OW_val (v := .int .i64 ((k : Nat) : Int)) rfl (E.r_move e5_r39) rfl ?_
          refine E.OW_val (v := .int .i64 ((k + 1 : Nat) : Int)) rfl (E.r_add rfl rfl (by rw [E.wrap_i64 (by omega) (by omega)]; omega)) rfl ?_
          refine E.OW_val (v := .int .i64 ((k + 1 : Nat) : Int)) rfl (E.r_assign rfl) rfl ?_
          refine E.OW_nil ?_
          refine E.nx_normal ?_
          refine ⟨_, (k + 1), ?_, rfl, e0_r39, e2_r39, e4_r39, rfl, x52, ⟨by omega, by rw [List.take_succ_eq_append_getElem (by omega)]; simp only [List.mem_append, List.mem_singleton, not_or]; exact ⟨hn, fun hz => h4' (by rw [(List.getElem?_eq_some_iff.1 hy43).2] at hz; rw [← hz]; rfl)⟩, (E.ext_range hr53 (E.Ext.refl _)), (E.ext_there ht54 (E.Ext.refl _))⟩⟩
          omega
      · skip
        have h3' := of_decide_eq_false h3
        have hk' : k = s.data.toList.length := by omega
        have ht' : s.data.toList.take k = s.data.toList := by rw [hk', List.take_length]
        have hb : kbad s.data.toList = false := by
          simp only [kbad, decide_eq_false_iff_not, not_or]
          rw [ht'] at hn
          exact ⟨fun h => h1' (by rw [hsz, h]; simp), by omega, hn⟩
        refine E.RL_exit ?_
        refine E.nx_exit ?_
        refine E.nx_exit ?_
        refine E.blk_eq ?_
        refine E.nx_normal ?_
        refine E.RL_seq ?_
        refine E.RL_region ?_
        refine E.OW_val (v := .agg (kl (kpad (s.data.toList.take k))).toArray) rfl (E.r_load e4_r39 (E.ldk Try.underlying24 rfl (ts24.trans (congrArg some (kl_len _).symm)) (E.ext_range hr (E.Ext.refl _)))) rfl ?_
        refine E.OW_stk (cs := kl (kpad (s.data.toList.take k))) e2_r39 rfl rfl (ts24.trans (congrArg some (kl_len _).symm)) (kl_one _) (by rw [kl_len]; exact (E.ext_there ht8 x40)) rfl (fun w55 hs56 _ => ?_)
        have x57 := hs56.1 _ x41 (by first | omega | (have := (E.Ext.refl _).size; omega))
        have hr58 := hs56.2.2.1
        have ht59 := hs56.2.2.2.1 _ _ _ (E.ext_there ht8 x40)
        have hr60 := hs56.2.2.2.2 _ _ _ (Or.inl (by omega)) (E.ext_range hr (E.Ext.refl _))
        have ht61 := hs56.2.2.2.1 _ _ _ (E.ext_there ht (E.Ext.refl _))
        refine E.OW_val (v := .bool true) rfl (E.r_assign rfl) rfl ?_
        refine E.OW_nil ?_
        refine E.nx_normal ?_
        refine E.RL_ret ?_
        refine E.post_ret (E.res_c1 (a := 2) (t := 24) (u := 3) (p := ⟨b1, 0, none⟩) rfl e2_r39 (E.ldk Try.underlying24 rfl (ts24.trans (congrArg some (kl_len _).symm)) (E.ext_range hr58 (E.Ext.refl _)))) ?_
        exact ⟨by rw [kofK, hb, ht']; rfl, by assumption⟩
end Go.Proofs.Ytmajbdehejhbfaa
