/-
  The law RouteSays: its walk.
-/
import Derived.Test.YtmajbdehejhbfaaPlain17
namespace Go.Proofs.Ytmajbdehejhbfaa
open Go Go.RowKit

theorem RouteSays_walk (w : World) (v u : E.Sl) (ps : List Key) (ws : List Write) (k lo hi : Key) (hv : E.Rd w v 16 kl ps) (hu : E.Rd w u 18 wl ws) :
    Calls Try.prog 3 #[v.val, kv k, u.val, kv lo, kv hi] w fun e w' => e = .returned (.bool true) ∧ Ext w w' := by
  have hlen := hu.1
  have hlen2 := hv.1
  refine E.calls_of_RL Try.func3 rfl Try.ntmps3 (Nat.le_of_ble_eq_true rfl) ?_
  refine E.RL_seq ?_
  refine E.RL_region ?_
  refine E.OW_box (v := .agg (kl k).toArray) (cs := kl k) rfl rfl rfl (fun b1 w2 hb3 x4 hz5 hr6 ht7 => ?_)
  have ht8 : World.there w2 b1 0 16 := by rw [kl_len] at ht7; exact ht7
  refine E.OW_box (v := .agg (kl lo).toArray) (cs := kl lo) rfl rfl rfl (fun b9 w10 hb11 x12 hz13 hr14 ht15 => ?_)
  have x16 := E.Ext.trans x4 x12
  have ht17 : World.there w10 b9 0 16 := by rw [kl_len] at ht15; exact ht15
  refine E.OW_box (v := .agg (kl hi).toArray) (cs := kl hi) rfl rfl rfl (fun b18 w19 hb20 x21 hz22 hr23 ht24 => ?_)
  have x25 := E.Ext.trans x16 x21
  have x26 := E.Ext.trans x12 x21
  have ht27 : World.there w19 b18 0 16 := by rw [kl_len] at ht24; exact ht24
  refine E.OW_val (v := .bool false) rfl (E.r_assign rfl) rfl ?_
  refine E.OW_nil ?_
  refine E.nx_normal ?_
  refine E.RL_seq ?_
  refine E.RL_seq ?_
  refine E.RL_region ?_
  refine E.OW_call rfl (E.r_call Try.func14 rfl rfl (E.args0)) rfl ((law17_awake_ok w19).mono ?_)
  rintro _ w28 ⟨rfl, x29⟩
  refine ⟨_, rfl, ?_⟩
  have x30 := E.Ext.trans x25 x29
  have x31 := E.Ext.trans x26 x29
  have x32 := E.Ext.trans x21 x29
  refine E.OW_val (v := .bool false) rfl (E.r_not (b := true) rfl) rfl ?_
  refine E.OW_nil ?_
  refine E.nx_normal ?_
  refine E.RL_false rfl rfl ?_
  refine E.RL_skip ?_
  refine E.nx_normal ?_
  refine E.RL_seq ?_
  refine E.RL_seq ?_
  refine E.RL_region ?_
  refine E.OW_val (v := v.val) rfl (E.r_move rfl) rfl ?_
  refine E.OW_val (v := .int .i64 ((v.len : Nat) : Int)) rfl (E.r_len Try.underlying22 rfl) rfl ?_
  refine E.OW_val (v := .bool (decide (12 < ((v.len : Nat) : Int)))) rfl (E.r_gtr rfl rfl) rfl ?_
  refine E.OW_val (v := .bool (decide (12 < ((v.len : Nat) : Int)))) rfl (E.r_move rfl) rfl ?_
  rcases E.bool_cases (decide (12 < ((v.len : Nat) : Int))) with h1 | h1
  · skip
    have h1' := of_decide_eq_true h1
    refine E.OW_no rfl rfl rfl h1 rfl ?_
    refine E.OW_no rfl rfl rfl h1 rfl ?_
    refine E.OW_val (v := .bool true) rfl (E.r_pick_t rfl h1 rfl) rfl ?_
    refine E.OW_nil ?_
    refine E.nx_normal ?_
    refine E.RL_true rfl rfl ?_
    refine E.RL_seq ?_
    refine E.RL_region ?_
    refine E.OW_val (v := .bool true) rfl (E.r_assign rfl) rfl ?_
    refine E.OW_nil ?_
    refine E.nx_normal ?_
    refine E.RL_ret ?_
    refine E.nx_ret ?_
    refine E.post_ret (E.res1 rfl) ?_
    exact ⟨rfl, x30⟩
  · skip
    have h1' := of_decide_eq_false h1
    refine E.OW_yes rfl rfl rfl h1 ?_
    refine E.OW_val (v := u.val) rfl (E.r_move rfl) rfl ?_
    refine E.OW_yes rfl rfl rfl h1 ?_
    refine E.OW_call rfl (E.r_call Try.func15 rfl rfl (E.args1 rfl)) rfl ((long_ok w28 u ws (hu.ext x30)).mono ?_)
    rintro _ w33 ⟨q35, rfl, x34, q36⟩
    refine ⟨_, rfl, ?_⟩
    have x37 := E.Ext.trans x30 x34
    have x38 := E.Ext.trans x31 x34
    have x39 := E.Ext.trans x32 x34
    have x40 := E.Ext.trans x29 x34
    refine E.OW_val (v := .bool q35) rfl (E.r_pick_f rfl h1 rfl) rfl ?_
    refine E.OW_nil ?_
    refine E.nx_normal ?_
    refine E.RL_cond rfl (fun h2 => ?_) (fun h2 => ?_)
    · skip
      refine E.RL_seq ?_
      refine E.RL_region ?_
      refine E.OW_val (v := .bool true) rfl (E.r_assign rfl) rfl ?_
      refine E.OW_nil ?_
      refine E.nx_normal ?_
      refine E.RL_ret ?_
      refine E.nx_ret ?_
      refine E.post_ret (E.res1 rfl) ?_
      exact ⟨rfl, x37⟩
    · skip
      have hl : ps.length ≤ 1000 := by omega
      have hlw' : ws.length ≤ 1000 := by have := q36 h2; omega
      refine E.RL_skip ?_
      refine E.nx_normal ?_
      refine E.RL_seq ?_
      refine E.RL_region ?_
      refine E.OW_val (v := v.val) rfl (E.r_move rfl) rfl ?_
      by_cases hok : Okps ps
      · skip
        refine E.OW_call rfl (E.r_call Try.func16 rfl rfl (E.args1 rfl)) rfl ((route_New_yes w33 v ps (hv.ext x37) hl hok).mono ?_)
        rintro _ w41 ⟨b, v', rfl, x42, hb, hv'⟩
        refine ⟨_, rfl, ?_⟩
        have x43 := E.Ext.trans x37 x42
        have x44 := E.Ext.trans x38 x42
        have x45 := E.Ext.trans x39 x42
        have x46 := E.Ext.trans x40 x42
        have x47 := E.Ext.trans x34 x42
        refine E.OW_val (v := .tuple #[.pointer (some ⟨b, 0, none⟩), .int .i64 0]) rfl (E.r_move rfl) rfl ?_
        refine E.OW_val (v := .pointer (some ⟨b, 0, none⟩)) rfl (E.r_extract rfl rfl) rfl ?_
        refine E.OW_val (v := .int .i64 0) rfl (E.r_extract rfl rfl) rfl ?_
        refine E.OW_val (v := .pointer (some ⟨b, 0, none⟩)) rfl (E.r_assign rfl) rfl ?_
        refine E.OW_val (v := .int .i64 0) rfl (E.r_assign rfl) rfl ?_
        refine E.OW_nil ?_
        refine E.nx_normal ?_
        refine E.RL_seq ?_
        refine E.RL_region ?_
        refine E.OW_val (v := v.val) rfl (E.r_move rfl) rfl ?_
        refine E.OW_call rfl (E.r_call Try.func17 rfl rfl (E.args1 rfl)) rfl ((ref_NewRoute_yes w41 v ps (hv.ext x43) hl hok).mono ?_)
        rintro _ w48 ⟨b', v'', rfl, x49, hb', hv''⟩
        refine ⟨_, rfl, ?_⟩
        have x50 := E.Ext.trans x43 x49
        have x51 := E.Ext.trans x44 x49
        have x52 := E.Ext.trans x45 x49
        have x53 := E.Ext.trans x46 x49
        have x54 := E.Ext.trans x47 x49
        have x55 := E.Ext.trans x42 x49
        have hf := rofI_eq hok
        have hpe := parts_eq hok ws
        have hpl := parts_le ps ws
        have hpl2 : (rparts ps ws).length ≤ ws.length := by rw [← hpe]; exact hpl
        have hcl := cov_le ps lo hi (ps.length + 1)
        refine E.OW_val (v := .tuple #[.pointer (some ⟨b', 0, none⟩), .bool true]) rfl (E.r_move rfl) rfl ?_
        refine E.OW_val (v := .pointer (some ⟨b', 0, none⟩)) rfl (E.r_extract rfl rfl) rfl ?_
        refine E.OW_val (v := .bool true) rfl (E.r_extract rfl rfl) rfl ?_
        refine E.OW_val (v := .pointer (some ⟨b', 0, none⟩)) rfl (E.r_assign rfl) rfl ?_
        refine E.OW_val (v := .bool true) rfl (E.r_assign rfl) rfl ?_
        refine E.OW_nil ?_
        refine E.nx_normal ?_
        refine E.RL_seq ?_
        refine E.RL_seq ?_
        refine E.RL_region ?_
        refine E.OW_val (v := .int .i64 0) rfl (E.r_move rfl) rfl ?_
        refine E.OW_val (v := .bool (decide ((0 : Int) = 0))) rfl (E.r_eql rfl rfl) rfl ?_
        refine E.OW_val (v := .bool true) rfl (E.r_move rfl) rfl ?_
        refine E.OW_val (v := .bool ((decide ((0 : Int) = 0)) != true)) rfl (E.r_neqB Try.underlying4 rfl rfl) rfl ?_
        refine E.OW_val (v := .bool ((decide ((0 : Int) = 0)) != true)) rfl (E.r_move rfl) rfl ?_
        have hk56 : ((decide ((0 : Int) = 0)) != true) = false := (by rfl)
        refine E.OW_yes rfl rfl rfl hk56 ?_
        refine E.OW_val (v := .bool true) rfl (E.r_move rfl) rfl ?_
        refine E.OW_yes rfl rfl rfl hk56 ?_
        refine E.OW_val (v := .bool false) rfl (E.r_not (b := true) rfl) rfl ?_
        refine E.OW_val (v := .bool false) rfl (E.r_pick_f rfl hk56 rfl) rfl ?_
        refine E.OW_nil ?_
        refine E.nx_normal ?_
        refine E.RL_false rfl rfl ?_
        refine E.RL_skip ?_
        refine E.nx_normal ?_
        refine E.RL_seq ?_
        refine E.RL_region ?_
        refine E.OW_val (v := .pointer (some ⟨b, 0, none⟩)) rfl (E.r_move rfl) rfl ?_
        refine E.OW_val (v := u.val) rfl (E.r_move rfl) rfl ?_
        refine E.OW_call rfl (E.r_call Try.func18 rfl rfl (E.args2 rfl rfl)) rfl ((route_Split_ok w48 b v' u ps ws (E.ext_range hb x49) (hv'.ext x49) (by omega) (hu.ext x50) (by omega)).mono ?_)
        rintro _ w57 ⟨q59, q60, rfl, x58, q61, q62⟩
        refine ⟨_, rfl, ?_⟩
        have x63 := E.Ext.trans x50 x58
        have x64 := E.Ext.trans x51 x58
        have x65 := E.Ext.trans x52 x58
        have x66 := E.Ext.trans x53 x58
        have x67 := E.Ext.trans x54 x58
        have x68 := E.Ext.trans x55 x58
        have x69 := E.Ext.trans x49 x58
        refine E.OW_val (v := .pointer (some ⟨b', 0, none⟩)) rfl (E.r_move rfl) rfl ?_
        refine E.OW_val (v := u.val) rfl (E.r_move rfl) rfl ?_
        refine E.OW_call rfl (E.r_call Try.func19 rfl rfl (E.args2 rfl rfl)) rfl ((rroute_Split_ok w57 b' v'' u ps ws (E.ext_range hb' x58) (hv''.ext x58) (by omega) (hu.ext x63) (by omega)).mono ?_)
        rintro _ w70 ⟨q72, q73, rfl, x71, q74, q75⟩
        refine ⟨_, rfl, ?_⟩
        have x76 := E.Ext.trans x63 x71
        have x77 := E.Ext.trans x64 x71
        have x78 := E.Ext.trans x65 x71
        have x79 := E.Ext.trans x66 x71
        have x80 := E.Ext.trans x67 x71
        have x81 := E.Ext.trans x68 x71
        have x82 := E.Ext.trans x69 x71
        have x83 := E.Ext.trans x58 x71
        refine E.OW_val (v := q59.val) rfl (E.r_assign rfl) rfl ?_
        refine E.OW_val (v := q72.val) rfl (E.r_assign rfl) rfl ?_
        refine E.OW_nil ?_
        refine E.nx_normal ?_
        refine E.RL_seq ?_
        refine E.RL_seq ?_
        refine E.RL_region ?_
        refine E.OW_val (v := q59.val) rfl (E.r_move rfl) rfl ?_
        refine E.OW_val (v := .int .i64 ((q59.len : Nat) : Int)) rfl (E.r_len Try.underlying35 rfl) rfl ?_
        refine E.OW_val (v := q72.val) rfl (E.r_move rfl) rfl ?_
        refine E.OW_val (v := .int .i64 ((q72.len : Nat) : Int)) rfl (E.r_len Try.underlying35 rfl) rfl ?_
        refine E.OW_val (v := .bool (decide (((q59.len : Nat) : Int) ≠ ((q72.len : Nat) : Int)))) rfl (E.r_neq rfl rfl) rfl ?_
        refine E.OW_val (v := .bool (decide (((q59.len : Nat) : Int) ≠ ((q72.len : Nat) : Int)))) rfl (E.r_move rfl) rfl ?_
        have hn1 := q61
        have hn2 := q74
        have hl1 := (E.Own2.own q62).len
        have hl2 := (E.Own2.own q75).len
        have hk84 : (decide (((q59.len : Nat) : Int) ≠ ((q72.len : Nat) : Int))) = false := (by simp; omega)
        refine E.OW_yes rfl rfl rfl hk84 ?_
        refine E.OW_val (v := .pointer (some ⟨b, 0, none⟩)) rfl (E.r_move rfl) rfl ?_
        refine E.OW_yes rfl rfl rfl hk84 ?_
        refine E.OW_call rfl (E.r_call Try.func20 rfl rfl (E.args1 rfl)) rfl ((route_Nodes_ok w70 b v' ps (E.ext_range hb x82) (hv'.ext x82) (by omega)).mono ?_)
        rintro _ w85 ⟨rfl, x86⟩
        refine ⟨_, rfl, ?_⟩
        have x87 := E.Ext.trans x76 x86
        have x88 := E.Ext.trans x77 x86
        have x89 := E.Ext.trans x78 x86
        have x90 := E.Ext.trans x79 x86
        have x91 := E.Ext.trans x80 x86
        have x92 := E.Ext.trans x81 x86
        have x93 := E.Ext.trans x82 x86
        have x94 := E.Ext.trans x83 x86
        have x95 := E.Ext.trans x71 x86
        refine E.OW_yes rfl rfl rfl hk84 ?_
        refine E.OW_val (v := v.val) rfl (E.r_move rfl) rfl ?_
        refine E.OW_yes rfl rfl rfl hk84 ?_
        refine E.OW_val (v := .int .i64 ((v.len : Nat) : Int)) rfl (E.r_len Try.underlying22 rfl) rfl ?_
        refine E.OW_yes rfl rfl rfl hk84 ?_
        refine E.OW_val (v := .int .i64 ((v.len + 1 : Nat) : Int)) rfl (E.r_add rfl rfl (by rw [E.wrap_i64 (by omega) (by omega)]; omega)) rfl ?_
        refine E.OW_yes rfl rfl rfl hk84 ?_
        refine E.OW_val (v := .bool (decide (((ps.length + 1 : Nat) : Int) ≠ ((v.len + 1 : Nat) : Int)))) rfl (E.r_neq rfl rfl) rfl ?_
        refine E.OW_val (v := .bool (decide (((ps.length + 1 : Nat) : Int) ≠ ((v.len + 1 : Nat) : Int)))) rfl (E.r_pick_f rfl hk84 rfl) rfl ?_
        refine E.OW_nil ?_
        refine E.nx_normal ?_
        refine E.RL_false rfl (by simp; omega) ?_
        refine E.RL_skip ?_
        refine E.nx_normal ?_
        refine E.RL_seq ?_
        refine E.RL_seq ?_
        refine E.RL_region ?_
        refine E.OW_val (v := .int .i64 0) rfl (E.r_assign rfl) rfl ?_
        refine E.OW_nil ?_
        refine E.nx_normal ?_
        refine E.RL_block ?_
        refine E.RL_loopg (fun m_ (i : Nat) ρ_ w_ => m_ = ps.length + 1 - i ∧ ρ_ 2 = u.val ∧ ρ_ 6 = .pointer (some ⟨b1, 0, none⟩) ∧ ρ_ 8 = .pointer (some ⟨b9, 0, none⟩) ∧ ρ_ 9 = .pointer (some ⟨b18, 0, none⟩) ∧ ρ_ 11 = .pointer (some ⟨b, 0, none⟩) ∧ ρ_ 13 = .pointer (some ⟨b', 0, none⟩) ∧ ρ_ 15 = q59.val ∧ ρ_ 16 = q72.val ∧ ρ_ 17 = .int .i64 ((i : Nat) : Int) ∧ E.Ext w85 w_ ∧ i ≤ ps.length + 1) _ (0) ⟨rfl, rfl, rfl, rfl, rfl, rfl, rfl, rfl, rfl, rfl, (E.Ext.refl _), by omega⟩ ?_
        rintro _ i r97 w96 ⟨rfl, e2_r97, e6_r97, e8_r97, e9_r97, e11_r97, e13_r97, e15_r97, e16_r97, e17_r97, x98, hinv_r97⟩
        have hinv := hinv_r97
        have x99 := E.Ext.trans x87 x98
        have x100 := E.Ext.trans x88 x98
        have x101 := E.Ext.trans x89 x98
        have x102 := E.Ext.trans x90 x98
        have x103 := E.Ext.trans x91 x98
        have x104 := E.Ext.trans x92 x98
        have x105 := E.Ext.trans x93 x98
        have x106 := E.Ext.trans x94 x98
        have x107 := E.Ext.trans x95 x98
        have x108 := E.Ext.trans x86 x98
        refine E.RL_seq ?_
        refine E.RL_seq ?_
        refine E.RL_region ?_
        refine E.OW_val (v := .int .i64 ((i : Nat) : Int)) rfl (E.r_move e17_r97) rfl ?_
        refine E.OW_val (v := q59.val) rfl (E.r_move e15_r97) rfl ?_
        refine E.OW_val (v := .int .i64 ((q59.len : Nat) : Int)) rfl (E.r_len Try.underlying35 rfl) rfl ?_
        refine E.OW_val (v := .bool (decide (((i : Nat) : Int) < ((q59.len : Nat) : Int)))) rfl (E.r_lss rfl rfl) rfl ?_
        refine E.OW_nil ?_
        refine E.nx_normal ?_
        refine E.RL_cond rfl (fun h3 => ?_) (fun h3 => ?_)
        · skip
          have h3' := of_decide_eq_true h3
          have hr1 := rowsOf_le (ofI ps) ws i
          have hr2 := rowsOf_le (rofI ps) ws i
          refine E.RL_skip ?_
          refine E.nx_normal ?_
          refine E.RL_seq ?_
          refine E.RL_block ?_
          refine E.RL_seq ?_
          refine E.RL_draw (fun w_ => E.Ext w96 w_) (by kernel_rfl) (fuel := 10) (listed := #[false, false, false, false, false, false, false, false, false, false]) rfl rfl ?_
          obtain ⟨w109, x110e⟩ : ∃ y, y = World.drew w96 := ⟨_, rfl⟩
          rw [← x110e]
          have x110 : E.Ext w96 w109 := by rw [x110e]; exact E.Ext.drew _
          clear x110e
          have x111 := E.Ext.trans x99 x110
          have x112 := E.Ext.trans x100 x110
          have x113 := E.Ext.trans x101 x110
          have x114 := E.Ext.trans x102 x110
          have x115 := E.Ext.trans x103 x110
          have x116 := E.Ext.trans x104 x110
          have x117 := E.Ext.trans x105 x110
          have x118 := E.Ext.trans x106 x110
          have x119 := E.Ext.trans x107 x110
          have x120 := E.Ext.trans x108 x110
          have x121 := E.Ext.trans x98 x110
          refine E.DW_take 0 (v := q59.val) rfl (by kernel_rfl) (by kernel_rfl) (by kernel_rfl) (listed' := #[true, false, false, false, false, false, false, false, false, false]) rfl rfl x110 (fun w_ hS => E.r_move e15_r97) rfl ?_
          refine E.DW_take 1 (v := .int .i64 ((i : Nat) : Int)) rfl (by kernel_rfl) (by kernel_rfl) (by kernel_rfl) (listed' := #[true, true, false, false, false, false, false, false, false, false]) rfl rfl x110 (fun w_ hS => E.r_move e17_r97) rfl ?_
          obtain ⟨y122, hy123⟩ : ∃ y, q60[i]? = some y := ⟨_, List.getElem?_eq_getElem (by first | omega | (have := (E.Own.rd (E.Own2.own q62) svl_len).1; omega))⟩
          refine E.DW_take 2 (v := .pointer (some ⟨q59.b, q59.o + i * 1, none⟩)) rfl (by kernel_rfl) (by kernel_rfl) (by kernel_rfl) (listed' := #[true, true, true, false, false, false, false, false, false, false]) rfl rfl x110 (fun w_ hS => E.r_indexSl rfl rfl Try.underlying35 ts25 (E.Own.rd (E.Own2.own q62) svl_len) hy123) rfl ?_
          refine E.DW_take 3 (v := y122.val) rfl (by kernel_rfl) (by kernel_rfl) (by kernel_rfl) (listed' := #[true, true, true, true, false, false, false, false, false, false]) rfl rfl x110 (fun w_ hS => E.r_load rfl (E.ld1 Try.underlying25 rfl (((E.Own.rd (E.Own2.own q62) svl_len).at_ (E.Ext.trans x107 hS) hy123) 0 _ rfl))) rfl ?_
          refine E.DW_take 4 (v := q72.val) rfl (by kernel_rfl) (by kernel_rfl) (by kernel_rfl) (listed' := #[true, true, true, true, true, false, false, false, false, false]) rfl rfl x110 (fun w_ hS => E.r_move e16_r97) rfl ?_
          refine E.DW_take 5 (v := .int .i64 ((i : Nat) : Int)) rfl (by kernel_rfl) (by kernel_rfl) (by kernel_rfl) (listed' := #[true, true, true, true, true, true, false, false, false, false]) rfl rfl x110 (fun w_ hS => E.r_move e17_r97) rfl ?_
          obtain ⟨y124, hy125⟩ : ∃ y, q73[i]? = some y := ⟨_, List.getElem?_eq_getElem (by first | omega | (have := (E.Own.rd (E.Own2.own q75) svl_len).1; omega))⟩
          refine E.DW_take 6 (v := .pointer (some ⟨q72.b, q72.o + i * 1, none⟩)) rfl (by kernel_rfl) (by kernel_rfl) (by kernel_rfl) (listed' := #[true, true, true, true, true, true, true, false, false, false]) rfl rfl x110 (fun w_ hS => E.r_indexSl rfl rfl Try.underlying35 ts25 (E.Own.rd (E.Own2.own q75) svl_len) hy125) rfl ?_
          refine E.DW_take 7 (v := y124.val) rfl (by kernel_rfl) (by kernel_rfl) (by kernel_rfl) (listed' := #[true, true, true, true, true, true, true, true, false, false]) rfl rfl x110 (fun w_ hS => E.r_load rfl (E.ld1 Try.underlying25 rfl (((E.Own.rd (E.Own2.own q75) svl_len).at_ (E.Ext.trans x108 hS) hy125) 0 _ rfl))) rfl ?_
          refine E.DW_call 8 rfl (by kernel_rfl) (listed' := #[true, true, true, true, true, true, true, true, true, false]) rfl (j := 0) (d := 0) (b := true) (want := true) (.inl rfl) (E.r_call Try.func21 rfl rfl (E.args2 rfl rfl)) rfl ((ref_Writes_ok w109 y122 y124 ((rowsOf (ofI ps) ws) i) ((rowsOf (rofI ps) ws) i) ((E.Own.rd (E.Own2.row q62 _ _ hy123) wl_len).ext x119) ((E.Own.rd (E.Own2.row q75 _ _ hy125) wl_len).ext x120) (by omega) (by omega)).mono ?_)
          rintro _ w126 ⟨rfl, x127⟩
          have x128 := E.Ext.trans x111 x127
          have x129 := E.Ext.trans x112 x127
          have x130 := E.Ext.trans x113 x127
          have x131 := E.Ext.trans x114 x127
          have x132 := E.Ext.trans x115 x127
          have x133 := E.Ext.trans x116 x127
          have x134 := E.Ext.trans x117 x127
          have x135 := E.Ext.trans x118 x127
          have x136 := E.Ext.trans x119 x127
          have x137 := E.Ext.trans x120 x127
          have x138 := E.Ext.trans x121 x127
          have x139 := E.Ext.trans x110 x127
          refine ⟨_, rfl, x139, ?_⟩
          refine E.DW_take 9 (v := .bool (!(decide (((rowsOf (ofI ps) ws) i) = ((rowsOf (rofI ps) ws) i))))) rfl (by kernel_rfl) (by kernel_rfl) (by kernel_rfl) (listed' := #[true, true, true, true, true, true, true, true, true, true]) rfl rfl x139 (fun w_ hS => E.r_not (b := (decide (((rowsOf (ofI ps) ws) i) = ((rowsOf (rofI ps) ws) i)))) rfl) rfl ?_
          refine E.DW_done (by kernel_rfl) ?_
          refine E.nx_normal ?_
          refine E.RL_false rfl (by rw [hf]; simp) ?_
          refine E.RL_skip ?_
          refine E.blk_normal ?_
          refine E.nx_normal ?_
          refine E.RL_region ?_
          refine E.OW_val (v := .int .i64 ((i : Nat) : Int)) rfl (E.r_move e17_r97) rfl ?_
          refine E.OW_val (v := .int .i64 ((i + 1 : Nat) : Int)) rfl (E.r_add rfl rfl (by rw [E.wrap_i64 (by omega) (by omega)]; omega)) rfl ?_
          refine E.OW_val (v := .int .i64 ((i + 1 : Nat) : Int)) rfl (E.r_assign rfl) rfl ?_
          refine E.OW_nil ?_
          refine E.nx_normal ?_
          refine ⟨_, (i + 1), ?_, rfl, e2_r97, e6_r97, e8_r97, e9_r97, e11_r97, e13_r97, e15_r97, e16_r97, rfl, x138, by omega⟩
          omega
        · skip
          have h3' := of_decide_eq_false h3
          refine E.RL_exit ?_
          refine E.nx_exit ?_
          refine E.nx_exit ?_
          refine E.blk_eq ?_
          refine E.nx_normal ?_
          refine E.RL_seq ?_
          refine E.RL_draw (fun w_ => E.Ext w96 w_) (by kernel_rfl) (fuel := 28) (listed := #[false, false, false, false, false, false, false, false, false, false, false, false, false, false, false, false, false, false, false, false, false, false, false, false, false, false, false, false]) rfl rfl ?_
          obtain ⟨w140, x141e⟩ : ∃ y, y = World.drew w96 := ⟨_, rfl⟩
          rw [← x141e]
          have x141 : E.Ext w96 w140 := by rw [x141e]; exact E.Ext.drew _
          clear x141e
          have x142 := E.Ext.trans x99 x141
          have x143 := E.Ext.trans x100 x141
          have x144 := E.Ext.trans x101 x141
          have x145 := E.Ext.trans x102 x141
          have x146 := E.Ext.trans x103 x141
          have x147 := E.Ext.trans x104 x141
          have x148 := E.Ext.trans x105 x141
          have x149 := E.Ext.trans x106 x141
          have x150 := E.Ext.trans x107 x141
          have x151 := E.Ext.trans x108 x141
          have x152 := E.Ext.trans x98 x141
          refine E.DW_take 0 (v := .pointer (some ⟨b, 0, none⟩)) rfl (by kernel_rfl) (by kernel_rfl) (by kernel_rfl) (listed' := #[true, false, false, false, false, false, false, false, false, false, false, false, false, false, false, false, false, false, false, false, false, false, false, false, false, false, false, false]) rfl rfl x141 (fun w_ hS => E.r_move e11_r97) rfl ?_
          refine E.DW_take 1 (v := .agg (kl k).toArray) rfl (by kernel_rfl) (by kernel_rfl) (by kernel_rfl) (listed' := #[true, true, false, false, false, false, false, false, false, false, false, false, false, false, false, false, false, false, false, false, false, false, false, false, false, false, false, false]) rfl rfl x141 (fun w_ hS => E.r_load e6_r97 (E.ldk Try.underlying24 rfl (ts24.trans (congrArg some (kl_len _).symm)) (E.ext_range hr6 (E.Ext.trans x100 hS)))) rfl ?_
          refine E.DW_take 3 (v := .pointer (some ⟨b', 0, none⟩)) rfl (by kernel_rfl) (by kernel_rfl) (by kernel_rfl) (listed' := #[true, true, false, true, false, false, false, false, false, false, false, false, false, false, false, false, false, false, false, false, false, false, false, false, false, false, false, false]) rfl rfl x141 (fun w_ hS => E.r_move e13_r97) rfl ?_
          refine E.DW_take 4 (v := .agg (kl k).toArray) rfl (by kernel_rfl) (by kernel_rfl) (by kernel_rfl) (listed' := #[true, true, false, true, true, false, false, false, false, false, false, false, false, false, false, false, false, false, false, false, false, false, false, false, false, false, false, false]) rfl rfl x141 (fun w_ hS => E.r_load e6_r97 (E.ldk Try.underlying24 rfl (ts24.trans (congrArg some (kl_len _).symm)) (E.ext_range hr6 (E.Ext.trans x100 hS)))) rfl ?_
          refine E.DW_call 2 rfl (by kernel_rfl) (listed' := #[true, true, true, true, true, false, false, false, false, false, false, false, false, false, false, false, false, false, false, false, false, false, false, false, false, false, false, false]) rfl (j := 0) (d := 0) (b := true) (want := true) (.inl rfl) (E.r_call Try.func22 rfl rfl (E.args2 rfl rfl)) rfl ((route_Of_ok w140 b v' ps k (E.ext_range hb x148) (hv'.ext x148) (by omega)).mono ?_)
          rintro _ w153 ⟨rfl, x154⟩
          have x155 := E.Ext.trans x142 x154
          have x156 := E.Ext.trans x143 x154
          have x157 := E.Ext.trans x144 x154
          have x158 := E.Ext.trans x145 x154
          have x159 := E.Ext.trans x146 x154
          have x160 := E.Ext.trans x147 x154
          have x161 := E.Ext.trans x148 x154
          have x162 := E.Ext.trans x149 x154
          have x163 := E.Ext.trans x150 x154
          have x164 := E.Ext.trans x151 x154
          have x165 := E.Ext.trans x152 x154
          have x166 := E.Ext.trans x141 x154
          refine ⟨_, rfl, x166, ?_⟩
          refine E.DW_call 5 rfl (by kernel_rfl) (listed' := #[true, true, true, true, true, true, false, false, false, false, false, false, false, false, false, false, false, false, false, false, false, false, false, false, false, false, false, false]) rfl (j := 0) (d := 0) (b := true) (want := true) (.inl rfl) (E.r_call Try.func23 rfl rfl (E.args2 rfl rfl)) rfl ((rroute_Of_ok w153 b' v'' ps k (E.ext_range hb' x162) (hv''.ext x162) (by omega)).mono ?_)
          rintro _ w167 ⟨rfl, x168⟩
          have x169 := E.Ext.trans x155 x168
          have x170 := E.Ext.trans x156 x168
          have x171 := E.Ext.trans x157 x168
          have x172 := E.Ext.trans x158 x168
          have x173 := E.Ext.trans x159 x168
          have x174 := E.Ext.trans x160 x168
          have x175 := E.Ext.trans x161 x168
          have x176 := E.Ext.trans x162 x168
          have x177 := E.Ext.trans x163 x168
          have x178 := E.Ext.trans x164 x168
          have x179 := E.Ext.trans x165 x168
          have x180 := E.Ext.trans x166 x168
          have x181 := E.Ext.trans x154 x168
          refine ⟨_, rfl, x180, ?_⟩
          refine E.DW_take 6 (v := .bool (decide ((ofI ps k) = (rofI ps k)))) rfl (by kernel_rfl) (by kernel_rfl) (by kernel_rfl) (listed' := #[true, true, true, true, true, true, true, false, false, false, false, false, false, false, false, false, false, false, false, false, false, false, false, false, false, false, false, false]) rfl rfl x180 (fun w_ hS => E.r_eql rfl rfl) rfl ?_
          refine E.DW_take 7 (v := .bool (decide ((ofI ps k) = (rofI ps k)))) rfl (by kernel_rfl) (by kernel_rfl) (by kernel_rfl) (listed' := #[true, true, true, true, true, true, true, true, false, false, false, false, false, false, false, false, false, false, false, false, false, false, false, false, false, false, false, false]) rfl rfl x180 (fun w_ hS => E.r_move rfl) rfl ?_
          have hk182 : (decide ((ofI ps k) = (rofI ps k))) = true := (by rw [hf]; simp)
          refine E.DW_takeg 8 (v := .pointer (some ⟨b, 0, none⟩)) rfl (by kernel_rfl) (by kernel_rfl) (by kernel_rfl) (listed' := #[true, true, true, true, true, true, true, true, true, false, false, false, false, false, false, false, false, false, false, false, false, false, false, false, false, false, false, false]) rfl rfl rfl rfl hk182 x180 (fun w_ hS => E.r_move e11_r97) rfl ?_
          refine E.DW_takeg 9 (v := u.val) rfl (by kernel_rfl) (by kernel_rfl) (by kernel_rfl) (listed' := #[true, true, true, true, true, true, true, true, true, true, false, false, false, false, false, false, false, false, false, false, false, false, false, false, false, false, false, false]) rfl rfl rfl rfl hk182 x180 (fun w_ hS => E.r_move e2_r97) rfl ?_
          refine E.DW_takeg 11 (v := .pointer (some ⟨b', 0, none⟩)) rfl (by kernel_rfl) (by kernel_rfl) (by kernel_rfl) (listed' := #[true, true, true, true, true, true, true, true, true, true, false, true, false, false, false, false, false, false, false, false, false, false, false, false, false, false, false, false]) rfl rfl rfl rfl hk182 x180 (fun w_ hS => E.r_move e13_r97) rfl ?_
          refine E.DW_takeg 12 (v := u.val) rfl (by kernel_rfl) (by kernel_rfl) (by kernel_rfl) (listed' := #[true, true, true, true, true, true, true, true, true, true, false, true, true, false, false, false, false, false, false, false, false, false, false, false, false, false, false, false]) rfl rfl rfl rfl hk182 x180 (fun w_ hS => E.r_move e2_r97) rfl ?_
          refine E.DW_call 10 rfl (by kernel_rfl) (listed' := #[true, true, true, true, true, true, true, true, true, true, true, true, true, false, false, false, false, false, false, false, false, false, false, false, false, false, false, false]) rfl (.inr ⟨rfl, rfl, rfl, hk182⟩) (E.r_call Try.func25 rfl rfl (E.args2 rfl rfl)) rfl ((route_Parts_ok w167 b v' u ps ws (E.ext_range hb x175) (hv'.ext x175) (by omega) (hu.ext x169) (by omega)).mono ?_)
          rintro _ w183 ⟨q185, rfl, x184, q186⟩
          have x187 := E.Ext.trans x169 x184
          have x188 := E.Ext.trans x170 x184
          have x189 := E.Ext.trans x171 x184
          have x190 := E.Ext.trans x172 x184
          have x191 := E.Ext.trans x173 x184
          have x192 := E.Ext.trans x174 x184
          have x193 := E.Ext.trans x175 x184
          have x194 := E.Ext.trans x176 x184
          have x195 := E.Ext.trans x177 x184
          have x196 := E.Ext.trans x178 x184
          have x197 := E.Ext.trans x179 x184
          have x198 := E.Ext.trans x180 x184
          have x199 := E.Ext.trans x181 x184
          have x200 := E.Ext.trans x168 x184
          refine ⟨_, rfl, x198, ?_⟩
          refine E.DW_call 13 rfl (by kernel_rfl) (listed' := #[true, true, true, true, true, true, true, true, true, true, true, true, true, true, false, false, false, false, false, false, false, false, false, false, false, false, false, false]) rfl (.inr ⟨rfl, rfl, rfl, hk182⟩) (E.r_call Try.func26 rfl rfl (E.args2 rfl rfl)) rfl ((rroute_Parts_ok w183 b' v'' u ps ws (E.ext_range hb' x194) (hv''.ext x194) (by omega) (hu.ext x187) (by omega)).mono ?_)
          rintro _ w201 ⟨q203, rfl, x202, q204⟩
          have x205 := E.Ext.trans x187 x202
          have x206 := E.Ext.trans x188 x202
          have x207 := E.Ext.trans x189 x202
          have x208 := E.Ext.trans x190 x202
          have x209 := E.Ext.trans x191 x202
          have x210 := E.Ext.trans x192 x202
          have x211 := E.Ext.trans x193 x202
          have x212 := E.Ext.trans x194 x202
          have x213 := E.Ext.trans x195 x202
          have x214 := E.Ext.trans x196 x202
          have x215 := E.Ext.trans x197 x202
          have x216 := E.Ext.trans x198 x202
          have x217 := E.Ext.trans x199 x202
          have x218 := E.Ext.trans x200 x202
          have x219 := E.Ext.trans x184 x202
          refine ⟨_, rfl, x216, ?_⟩
          refine E.DW_call 14 rfl (by kernel_rfl) (listed' := #[true, true, true, true, true, true, true, true, true, true, true, true, true, true, true, false, false, false, false, false, false, false, false, false, false, false, false, false]) rfl (.inr ⟨rfl, rfl, rfl, hk182⟩) (E.r_call Try.func24 rfl rfl (E.args2 rfl rfl)) rfl ((same_ok w201 q185 q203 (parts ps ws) (rparts ps ws) ((E.Own.rd q186 il_len).ext x202) ((E.Own.rd q204 il_len).ext (E.Ext.refl _)) (by omega) (by omega)).mono ?_)
          rintro _ w220 ⟨rfl, x221⟩
          have x222 := E.Ext.trans x205 x221
          have x223 := E.Ext.trans x206 x221
          have x224 := E.Ext.trans x207 x221
          have x225 := E.Ext.trans x208 x221
          have x226 := E.Ext.trans x209 x221
          have x227 := E.Ext.trans x210 x221
          have x228 := E.Ext.trans x211 x221
          have x229 := E.Ext.trans x212 x221
          have x230 := E.Ext.trans x213 x221
          have x231 := E.Ext.trans x214 x221
          have x232 := E.Ext.trans x215 x221
          have x233 := E.Ext.trans x216 x221
          have x234 := E.Ext.trans x217 x221
          have x235 := E.Ext.trans x218 x221
          have x236 := E.Ext.trans x219 x221
          have x237 := E.Ext.trans x202 x221
          refine ⟨_, rfl, x233, ?_⟩
          refine E.DW_take 15 (v := .bool (decide ((parts ps ws) = (rparts ps ws)))) rfl (by kernel_rfl) (by kernel_rfl) (by kernel_rfl) (listed' := #[true, true, true, true, true, true, true, true, true, true, true, true, true, true, true, true, false, false, false, false, false, false, false, false, false, false, false, false]) rfl rfl x233 (fun w_ hS => E.r_pick_t rfl hk182 rfl) rfl ?_
          refine E.DW_take 16 (v := .bool (decide ((parts ps ws) = (rparts ps ws)))) rfl (by kernel_rfl) (by kernel_rfl) (by kernel_rfl) (listed' := #[true, true, true, true, true, true, true, true, true, true, true, true, true, true, true, true, true, false, false, false, false, false, false, false, false, false, false, false]) rfl rfl x233 (fun w_ hS => E.r_move rfl) rfl ?_
          have hk238 : (decide ((parts ps ws) = (rparts ps ws))) = true := (by rw [hpe]; simp)
          refine E.DW_takeg 17 (v := .pointer (some ⟨b, 0, none⟩)) rfl (by kernel_rfl) (by kernel_rfl) (by kernel_rfl) (listed' := #[true, true, true, true, true, true, true, true, true, true, true, true, true, true, true, true, true, true, false, false, false, false, false, false, false, false, false, false]) rfl rfl rfl rfl hk238 x233 (fun w_ hS => E.r_move e11_r97) rfl ?_
          refine E.DW_takeg 18 (v := .agg (kl lo).toArray) rfl (by kernel_rfl) (by kernel_rfl) (by kernel_rfl) (listed' := #[true, true, true, true, true, true, true, true, true, true, true, true, true, true, true, true, true, true, true, false, false, false, false, false, false, false, false, false]) rfl rfl rfl rfl hk238 x233 (fun w_ hS => E.r_load e8_r97 (E.ldk Try.underlying24 rfl (ts24.trans (congrArg some (kl_len _).symm)) (E.ext_range hr14 (E.Ext.trans x101 hS)))) rfl ?_
          refine E.DW_takeg 19 (v := .agg (kl hi).toArray) rfl (by kernel_rfl) (by kernel_rfl) (by kernel_rfl) (listed' := #[true, true, true, true, true, true, true, true, true, true, true, true, true, true, true, true, true, true, true, true, false, false, false, false, false, false, false, false]) rfl rfl rfl rfl hk238 x233 (fun w_ hS => E.r_load e9_r97 (E.ldk Try.underlying24 rfl (ts24.trans (congrArg some (kl_len _).symm)) (E.ext_range hr23 (E.Ext.trans x102 hS)))) rfl ?_
          refine E.DW_takeg 21 (v := .pointer (some ⟨b', 0, none⟩)) rfl (by kernel_rfl) (by kernel_rfl) (by kernel_rfl) (listed' := #[true, true, true, true, true, true, true, true, true, true, true, true, true, true, true, true, true, true, true, true, false, true, false, false, false, false, false, false]) rfl rfl rfl rfl hk238 x233 (fun w_ hS => E.r_move e13_r97) rfl ?_
          refine E.DW_takeg 22 (v := .agg (kl lo).toArray) rfl (by kernel_rfl) (by kernel_rfl) (by kernel_rfl) (listed' := #[true, true, true, true, true, true, true, true, true, true, true, true, true, true, true, true, true, true, true, true, false, true, true, false, false, false, false, false]) rfl rfl rfl rfl hk238 x233 (fun w_ hS => E.r_load e8_r97 (E.ldk Try.underlying24 rfl (ts24.trans (congrArg some (kl_len _).symm)) (E.ext_range hr14 (E.Ext.trans x101 hS)))) rfl ?_
          refine E.DW_takeg 23 (v := .agg (kl hi).toArray) rfl (by kernel_rfl) (by kernel_rfl) (by kernel_rfl) (listed' := #[true, true, true, true, true, true, true, true, true, true, true, true, true, true, true, true, true, true, true, true, false, true, true, true, false, false, false, false]) rfl rfl rfl rfl hk238 x233 (fun w_ hS => E.r_load e9_r97 (E.ldk Try.underlying24 rfl (ts24.trans (congrArg some (kl_len _).symm)) (E.ext_range hr23 (E.Ext.trans x102 hS)))) rfl ?_
          refine E.DW_call 20 rfl (by kernel_rfl) (listed' := #[true, true, true, true, true, true, true, true, true, true, true, true, true, true, true, true, true, true, true, true, true, true, true, true, false, false, false, false]) rfl (.inr ⟨rfl, rfl, rfl, hk238⟩) (E.r_call Try.func27 rfl rfl (E.args3 rfl rfl rfl)) rfl ((route_Cover_ok w220 b v' ps lo hi (E.ext_range hb x228) (hv'.ext x228) (by omega)).mono ?_)
          rintro _ w239 ⟨q241, rfl, x240, q242⟩
          have x243 := E.Ext.trans x222 x240
          have x244 := E.Ext.trans x223 x240
          have x245 := E.Ext.trans x224 x240
          have x246 := E.Ext.trans x225 x240
          have x247 := E.Ext.trans x226 x240
          have x248 := E.Ext.trans x227 x240
          have x249 := E.Ext.trans x228 x240
          have x250 := E.Ext.trans x229 x240
          have x251 := E.Ext.trans x230 x240
          have x252 := E.Ext.trans x231 x240
          have x253 := E.Ext.trans x232 x240
          have x254 := E.Ext.trans x233 x240
          have x255 := E.Ext.trans x234 x240
          have x256 := E.Ext.trans x235 x240
          have x257 := E.Ext.trans x236 x240
          have x258 := E.Ext.trans x237 x240
          have x259 := E.Ext.trans x221 x240
          refine ⟨_, rfl, x254, ?_⟩
          refine E.DW_call 24 rfl (by kernel_rfl) (listed' := #[true, true, true, true, true, true, true, true, true, true, true, true, true, true, true, true, true, true, true, true, true, true, true, true, true, false, false, false]) rfl (.inr ⟨rfl, rfl, rfl, hk238⟩) (E.r_call Try.func28 rfl rfl (E.args3 rfl rfl rfl)) rfl ((rroute_Cover_ok w239 b' v'' ps lo hi (E.ext_range hb' x250) (hv''.ext x250) (by omega)).mono ?_)
          rintro _ w260 ⟨q262, rfl, x261, q263⟩
          have x264 := E.Ext.trans x243 x261
          have x265 := E.Ext.trans x244 x261
          have x266 := E.Ext.trans x245 x261
          have x267 := E.Ext.trans x246 x261
          have x268 := E.Ext.trans x247 x261
          have x269 := E.Ext.trans x248 x261
          have x270 := E.Ext.trans x249 x261
          have x271 := E.Ext.trans x250 x261
          have x272 := E.Ext.trans x251 x261
          have x273 := E.Ext.trans x252 x261
          have x274 := E.Ext.trans x253 x261
          have x275 := E.Ext.trans x254 x261
          have x276 := E.Ext.trans x255 x261
          have x277 := E.Ext.trans x256 x261
          have x278 := E.Ext.trans x257 x261
          have x279 := E.Ext.trans x258 x261
          have x280 := E.Ext.trans x259 x261
          have x281 := E.Ext.trans x240 x261
          refine ⟨_, rfl, x275, ?_⟩
          refine E.DW_call 25 rfl (by kernel_rfl) (listed' := #[true, true, true, true, true, true, true, true, true, true, true, true, true, true, true, true, true, true, true, true, true, true, true, true, true, true, false, false]) rfl (.inr ⟨rfl, rfl, rfl, hk238⟩) (E.r_call Try.func24 rfl rfl (E.args2 rfl rfl)) rfl ((same_ok w260 q241 q262 (cov ps lo hi (ps.length + 1)) (cov ps lo hi (ps.length + 1)) ((E.Own.rd q242 il_len).ext x261) ((E.Own.rd q263 il_len).ext (E.Ext.refl _)) (by omega) (by omega)).mono ?_)
          rintro _ w282 ⟨rfl, x283⟩
          have x284 := E.Ext.trans x264 x283
          have x285 := E.Ext.trans x265 x283
          have x286 := E.Ext.trans x266 x283
          have x287 := E.Ext.trans x267 x283
          have x288 := E.Ext.trans x268 x283
          have x289 := E.Ext.trans x269 x283
          have x290 := E.Ext.trans x270 x283
          have x291 := E.Ext.trans x271 x283
          have x292 := E.Ext.trans x272 x283
          have x293 := E.Ext.trans x273 x283
          have x294 := E.Ext.trans x274 x283
          have x295 := E.Ext.trans x275 x283
          have x296 := E.Ext.trans x276 x283
          have x297 := E.Ext.trans x277 x283
          have x298 := E.Ext.trans x278 x283
          have x299 := E.Ext.trans x279 x283
          have x300 := E.Ext.trans x280 x283
          have x301 := E.Ext.trans x281 x283
          have x302 := E.Ext.trans x261 x283
          refine ⟨_, rfl, x295, ?_⟩
          refine E.DW_take 26 (v := .bool (decide ((cov ps lo hi (ps.length + 1)) = (cov ps lo hi (ps.length + 1))))) rfl (by kernel_rfl) (by kernel_rfl) (by kernel_rfl) (listed' := #[true, true, true, true, true, true, true, true, true, true, true, true, true, true, true, true, true, true, true, true, true, true, true, true, true, true, true, false]) rfl rfl x295 (fun w_ hS => E.r_pick_t rfl hk238 rfl) rfl ?_
          refine E.DW_take 27 (v := .bool (decide ((cov ps lo hi (ps.length + 1)) = (cov ps lo hi (ps.length + 1))))) rfl (by kernel_rfl) (by kernel_rfl) (by kernel_rfl) (listed' := #[true, true, true, true, true, true, true, true, true, true, true, true, true, true, true, true, true, true, true, true, true, true, true, true, true, true, true, true]) rfl rfl x295 (fun w_ hS => E.r_assign rfl) rfl ?_
          refine E.DW_done (by kernel_rfl) ?_
          refine E.nx_normal ?_
          refine E.RL_ret ?_
          refine E.post_ret (E.res1 rfl) ?_
          refine ⟨?_, x284⟩
          show Ending.returned (Value.bool (decide (_ = _))) = _
          rw [decide_eq_true rfl]
      · skip
        refine E.OW_call rfl (E.r_call Try.func16 rfl rfl (E.args1 rfl)) rfl ((route_New_no w33 v ps (hv.ext x37) hl hok).mono ?_)
        rintro _ w303 ⟨rfl, x304⟩
        refine ⟨_, rfl, ?_⟩
        have x305 := E.Ext.trans x37 x304
        have x306 := E.Ext.trans x38 x304
        have x307 := E.Ext.trans x39 x304
        have x308 := E.Ext.trans x40 x304
        have x309 := E.Ext.trans x34 x304
        refine E.OW_val (v := .tuple #[.pointer none, .int .i64 1]) rfl (E.r_move rfl) rfl ?_
        refine E.OW_val (v := .pointer none) rfl (E.r_extract rfl rfl) rfl ?_
        refine E.OW_val (v := .int .i64 1) rfl (E.r_extract rfl rfl) rfl ?_
        refine E.OW_val (v := .pointer none) rfl (E.r_assign rfl) rfl ?_
        refine E.OW_val (v := .int .i64 1) rfl (E.r_assign rfl) rfl ?_
        refine E.OW_nil ?_
        refine E.nx_normal ?_
        refine E.RL_seq ?_
        refine E.RL_region ?_
        refine E.OW_val (v := v.val) rfl (E.r_move rfl) rfl ?_
        refine E.OW_call rfl (E.r_call Try.func17 rfl rfl (E.args1 rfl)) rfl ((ref_NewRoute_no w303 v ps (hv.ext x305) hl hok).mono ?_)
        rintro _ w310 ⟨rfl, x311⟩
        refine ⟨_, rfl, ?_⟩
        have x312 := E.Ext.trans x305 x311
        have x313 := E.Ext.trans x306 x311
        have x314 := E.Ext.trans x307 x311
        have x315 := E.Ext.trans x308 x311
        have x316 := E.Ext.trans x309 x311
        have x317 := E.Ext.trans x304 x311
        refine E.OW_val (v := .tuple #[.pointer none, .bool false]) rfl (E.r_move rfl) rfl ?_
        refine E.OW_val (v := .pointer none) rfl (E.r_extract rfl rfl) rfl ?_
        refine E.OW_val (v := .bool false) rfl (E.r_extract rfl rfl) rfl ?_
        refine E.OW_val (v := .pointer none) rfl (E.r_assign rfl) rfl ?_
        refine E.OW_val (v := .bool false) rfl (E.r_assign rfl) rfl ?_
        refine E.OW_nil ?_
        refine E.nx_normal ?_
        refine E.RL_seq ?_
        refine E.RL_seq ?_
        refine E.RL_region ?_
        refine E.OW_val (v := .int .i64 1) rfl (E.r_move rfl) rfl ?_
        refine E.OW_val (v := .bool (decide ((1 : Int) = 0))) rfl (E.r_eql rfl rfl) rfl ?_
        refine E.OW_val (v := .bool false) rfl (E.r_move rfl) rfl ?_
        refine E.OW_val (v := .bool ((decide ((1 : Int) = 0)) != false)) rfl (E.r_neqB Try.underlying4 rfl rfl) rfl ?_
        refine E.OW_val (v := .bool ((decide ((1 : Int) = 0)) != false)) rfl (E.r_move rfl) rfl ?_
        have hk318 : ((decide ((1 : Int) = 0)) != false) = false := (by rfl)
        refine E.OW_yes rfl rfl rfl hk318 ?_
        refine E.OW_val (v := .bool false) rfl (E.r_move rfl) rfl ?_
        refine E.OW_yes rfl rfl rfl hk318 ?_
        refine E.OW_val (v := .bool true) rfl (E.r_not (b := false) rfl) rfl ?_
        refine E.OW_val (v := .bool true) rfl (E.r_pick_f rfl hk318 rfl) rfl ?_
        refine E.OW_nil ?_
        refine E.nx_normal ?_
        refine E.RL_true rfl rfl ?_
        refine E.RL_seq ?_
        refine E.RL_region ?_
        refine E.OW_val (v := .bool false) rfl (E.r_move rfl) rfl ?_
        refine E.OW_val (v := .bool true) rfl (E.r_not (b := false) rfl) rfl ?_
        refine E.OW_val (v := .bool true) rfl (E.r_move rfl) rfl ?_
        refine E.OW_yes rfl rfl rfl rfl ?_
        refine E.OW_val (v := .int .i64 1) rfl (E.r_move rfl) rfl ?_
        refine E.OW_yes rfl rfl rfl rfl ?_
        refine E.OW_val (v := .bool (decide ((1 : Int) = 1))) rfl (E.r_eql rfl rfl) rfl ?_
        refine E.OW_val (v := .bool (decide ((1 : Int) = 1))) rfl (E.r_pick_t rfl rfl rfl) rfl ?_
        refine E.OW_val (v := .bool (decide ((1 : Int) = 1))) rfl (E.r_move rfl) rfl ?_
        have hk319 : (decide ((1 : Int) = 1)) = true := (by rfl)
        refine E.OW_yes rfl rfl rfl hk319 ?_
        refine E.OW_val (v := .pointer none) rfl (E.r_move rfl) rfl ?_
        refine E.OW_yes rfl rfl rfl hk319 ?_
        refine E.OW_val (v := .bool true) rfl (E.r_eqlN (p := none) Try.underlying28 rfl rfl) rfl ?_
        refine E.OW_val (v := .bool true) rfl (E.r_pick_t rfl hk319 rfl) rfl ?_
        refine E.OW_val (v := .bool true) rfl (E.r_assign rfl) rfl ?_
        refine E.OW_nil ?_
        refine E.nx_normal ?_
        refine E.RL_ret ?_
        refine E.nx_ret ?_
        refine E.post_ret (E.res1 rfl) ?_
        exact ⟨rfl, x312⟩
end Go.Proofs.Ytmajbdehejhbfaa
