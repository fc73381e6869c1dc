/-
  The document's parts; the law's own beginning.
-/
import Derived.Test.YtmajbdehejhbfaaRoute3
namespace Go.Proofs.Ytmajbdehejhbfaa
open Go Go.RowKit

/-- The nodes that hold something, in their order. -/
def rpartsN (f : Key → Int) (ws : List Write) (n : Nat) : List Int := ((List.range n).filter fun j => decide (0 < (rowsOf f ws j).length)).map fun j => ((j : Nat) : Int)
def rparts (ps : List Key) (ws : List Write) : List Int := rpartsN (rofI ps) ws (ps.length + 1)
theorem rpartsN_succ (f : Key → Int) (ws : List Write) (n : Nat) : rpartsN f ws (n + 1) = rpartsN f ws n ++ if 0 < (rowsOf f ws n).length then [((n : Nat) : Int)] else [] := by
  rw [rpartsN, List.range_succ, List.filter_append, List.map_append, rpartsN]
  congr 1
  by_cases h : 0 < (rowsOf f ws n).length <;> simp [h]
theorem rpartsN_le (f : Key → Int) (ws : List Write) (n : Nat) : (rpartsN f ws n).length ≤ n := by
  rw [rpartsN, List.length_map]; exact Nat.le_trans (List.length_filter_le _ _) (by simp)
theorem rroute_Parts_ok (w : World) (b : Nat) (v u : E.Sl) (ps : List Key) (ws : List Write) (hb : w.rangeAt b 0 [v.val]) (hv : E.Rd w v 16 kl ps) (hl : ps.length ≤ 1000) (hu : E.Rd w u 18 wl ws) (hlw : ws.length ≤ 1000) :
    Calls Try.prog 26 #[.pointer (some ⟨b, 0, none⟩), u.val] w fun e w' => ∃ r : E.Sl, e = .returned r.val ∧ Ext w w' ∧ E.Own w.heap.size w' r 3 1 il (rparts ps ws) := by
  have hlen := hu.1
  have hlen2 := hv.1
  refine E.calls_of_RL Try.func26 rfl Try.ntmps26 (Nat.le_of_ble_eq_true rfl) ?_
  refine E.RL_seq ?_
  refine E.RL_region ?_
  refine E.OW_val (v := .slice none 0 0) rfl (E.r_assign rfl) rfl ?_
  refine E.OW_nil ?_
  refine E.nx_normal ?_
  refine E.RL_seq ?_
  refine E.RL_region ?_
  refine E.OW_val (v := .slice none 0 0) rfl (E.r_assign rfl) rfl ?_
  refine E.OW_nil ?_
  refine E.nx_normal ?_
  refine E.RL_seq ?_
  refine E.RL_region ?_
  refine E.OW_val (v := .pointer (some ⟨b, 0, none⟩)) rfl (E.r_move rfl) rfl ?_
  refine E.OW_val (v := u.val) rfl (E.r_move rfl) rfl ?_
  refine E.OW_call rfl (E.r_call Try.func19 rfl rfl (E.args2 rfl rfl)) rfl ((rroute_Split_ok w b v u ps ws (E.ext_range hb (E.Ext.refl _)) (hv.ext (E.Ext.refl _)) (by omega) (hu.ext (E.Ext.refl _)) (by omega)).mono ?_)
  rintro _ w1 ⟨q3, q4, rfl, x2, q5, q6⟩
  refine ⟨_, rfl, ?_⟩
  refine E.OW_val (v := q3.val) rfl (E.r_assign rfl) rfl ?_
  refine E.OW_nil ?_
  refine E.nx_normal ?_
  refine E.RL_seq ?_
  refine E.RL_seq ?_
  refine E.RL_region ?_
  refine E.OW_val (v := .int .i64 0) rfl (E.r_assign rfl) rfl ?_
  refine E.OW_nil ?_
  refine E.nx_normal ?_
  refine E.RL_block ?_
  have ho4 := q6
  have hlo := (E.Own.rd ho4.own svl_len).1
  refine E.RL_loopg (fun m_ (g_ : Nat × E.Sl) ρ_ w_ => match g_ with | ⟨i, r⟩ => m_ = ps.length + 1 - i ∧ ρ_ 4 = .slice none 0 0 ∧ ρ_ 6 = q3.val ∧ ρ_ 7 = .int .i64 ((i : Nat) : Int) ∧ ρ_ 5 = r.val ∧ E.Ext w1 w_ ∧ i ≤ ps.length + 1 ∧ E.Own w1.heap.size w_ r 3 1 il (rpartsN (rofI ps) ws i)) _ ((0, E.Sl.nil)) ⟨rfl, rfl, rfl, rfl, rfl, (E.Ext.refl _), ⟨by omega, E.Own.nil _ _ _ _ _⟩⟩ ?_
  rintro _ (⟨i, r⟩) r8 w7 ⟨rfl, e4_r8, e6_r8, e7_r8, e5_r8, x9, hinv_r8⟩
  have hinv := hinv_r8
  have x10 := E.Ext.trans x2 x9
  obtain ⟨hi, ho⟩ := hinv
  have hcl := rpartsN_le (rofI ps) ws i
  refine E.RL_seq ?_
  refine E.RL_seq ?_
  refine E.RL_region ?_
  refine E.OW_val (v := .int .i64 ((i : Nat) : Int)) rfl (E.r_move e7_r8) rfl ?_
  refine E.OW_val (v := q3.val) rfl (E.r_move e6_r8) rfl ?_
  refine E.OW_val (v := .int .i64 ((q3.len : Nat) : Int)) rfl (E.r_len Try.underlying35 rfl) rfl ?_
  refine E.OW_val (v := .bool (decide (((i : Nat) : Int) < ((q3.len : Nat) : Int)))) rfl (E.r_lss rfl rfl) rfl ?_
  refine E.OW_nil ?_
  refine E.nx_normal ?_
  refine E.RL_cond rfl (fun h1 => ?_) (fun h1 => ?_)
  · skip
    have h1' := of_decide_eq_true h1
    refine E.RL_skip ?_
    refine E.nx_normal ?_
    refine E.RL_seq ?_
    refine E.RL_block ?_
    refine E.RL_seq ?_
    refine E.RL_region ?_
    refine E.OW_val (v := q3.val) rfl (E.r_move e6_r8) rfl ?_
    refine E.OW_val (v := .int .i64 ((i : Nat) : Int)) rfl (E.r_move e7_r8) rfl ?_
    obtain ⟨y11, hy12⟩ : ∃ y, q4[i]? = some y := ⟨_, List.getElem?_eq_getElem (by first | omega | (have := (E.Own.rd (E.Own2.own q6) svl_len).1; omega))⟩
    refine E.OW_val (v := .pointer (some ⟨q3.b, q3.o + i * 1, none⟩)) rfl (E.r_indexSl rfl rfl Try.underlying35 ts25 (E.Own.rd (E.Own2.own q6) svl_len) hy12) rfl ?_
    refine E.OW_val (v := y11.val) rfl (E.r_load rfl (E.ld1 Try.underlying25 rfl (((E.Own.rd (E.Own2.own q6) svl_len).at_ x9 hy12) 0 _ rfl))) rfl ?_
    refine E.OW_val (v := .int .i64 ((y11.len : Nat) : Int)) rfl (E.r_len Try.underlying25 rfl) rfl ?_
    refine E.OW_val (v := .bool (decide (0 < ((y11.len : Nat) : Int)))) rfl (E.r_gtr rfl rfl) rfl ?_
    refine E.OW_nil ?_
    refine E.nx_normal ?_
    have hrl := (ho4.row i _ hy12).len
    refine E.RL_cond rfl (fun h2 => ?_) (fun h2 => ?_)
    · skip
      have h2' := of_decide_eq_true h2
      refine E.RL_region ?_
      refine E.OW_val (v := r.val) rfl (E.r_move e5_r8) rfl ?_
      refine E.OW_val (v := .int .i64 ((i : Nat) : Int)) rfl (E.r_move e7_r8) rfl ?_
      refine E.OW_lit1 (enc := il) (y := ((i : Nat) : Int)) rfl rfl Try.underlying42 el3 il_len (by omega) rfl (fun v13 w14 x15 ho16 => ?_)
      have x17 := E.Ext.trans x10 x15
      have x18 := E.Ext.trans x9 x15
      refine E.OW_append (base := w1.heap.size) (enc := il) (v := r) (u := v13) (l := (rpartsN (rofI ps) ws i)) (m := ([((i : Nat) : Int)])) rfl rfl Try.underlying42 el3 il_len (by omega) il_one (E.Own.ext ho x15) ((E.Own.rd ho16 il_len).ext (E.Ext.refl _)) (by first | omega | (simp only [List.length_cons, List.length_nil, List.length_append, List.length_replicate]; omega)) x18.size rfl (fun v19 w20 ho21 hg22 _ => ?_)
      have x23 := E.ext_grown x17 hg22 (fun k_ hk_ => Nat.le_trans (x2.size) (E.Own.above (E.Own.ext ho x15) k_ hk_))
      have x24 := E.ext_grown x18 hg22 (fun k_ hk_ => Nat.le_trans (Nat.le_refl _) (E.Own.above (E.Own.ext ho x15) k_ hk_))
      refine E.OW_val (v := v19.val) rfl (E.r_assign rfl) rfl ?_
      refine E.OW_nil ?_
      refine E.blk_normal ?_
      refine E.nx_normal ?_
      refine E.RL_region ?_
      refine E.OW_val (v := .int .i64 ((i : Nat) : Int)) rfl (E.r_move e7_r8) rfl ?_
      refine E.OW_val (v := .int .i64 ((i + 1 : Nat) : Int)) rfl (E.r_add rfl rfl (by rw [E.wrap_i64 (by omega) (by omega)]; omega)) rfl ?_
      refine E.OW_val (v := .int .i64 ((i + 1 : Nat) : Int)) rfl (E.r_assign rfl) rfl ?_
      refine E.OW_nil ?_
      refine E.nx_normal ?_
      refine ⟨_, (i + 1, v19), ?_, rfl, e4_r8, e6_r8, rfl, rfl, x24, ⟨by omega, ?_⟩⟩
      omega
      rw [rpartsN_succ, if_pos (by omega)]
      exact (E.Own.ext ho21 (E.Ext.refl _))
    · skip
      have h2' := of_decide_eq_false h2
      refine E.RL_skip ?_
      refine E.blk_normal ?_
      refine E.nx_normal ?_
      refine E.RL_region ?_
      refine E.OW_val (v := .int .i64 ((i : Nat) : Int)) rfl (E.r_move e7_r8) rfl ?_
      refine E.OW_val (v := .int .i64 ((i + 1 : Nat) : Int)) rfl (E.r_add rfl rfl (by rw [E.wrap_i64 (by omega) (by omega)]; omega)) rfl ?_
      refine E.OW_val (v := .int .i64 ((i + 1 : Nat) : Int)) rfl (E.r_assign rfl) rfl ?_
      refine E.OW_nil ?_
      refine E.nx_normal ?_
      refine ⟨_, (i + 1, r), ?_, rfl, e4_r8, e6_r8, rfl, e5_r8, x9, ⟨by omega, ?_⟩⟩
      omega
      rw [rpartsN_succ, if_neg (by omega), List.append_nil]
      exact (E.Own.ext ho (E.Ext.refl _))
  · skip
    have h1' := of_decide_eq_false h1
    refine E.RL_exit ?_
    refine E.nx_exit ?_
    refine E.nx_exit ?_
    refine E.blk_eq ?_
    refine E.nx_normal ?_
    refine E.RL_seq ?_
    refine E.RL_region ?_
    refine E.OW_val (v := r.val) rfl (E.r_move e5_r8) rfl ?_
    refine E.OW_val (v := r.val) rfl (E.r_assign rfl) rfl ?_
    refine E.OW_nil ?_
    refine E.nx_normal ?_
    refine E.RL_ret ?_
    refine E.post_ret (E.res1 rfl) ?_
    refine ⟨r, rfl, x10, ?_⟩
    have e : ps.length + 1 = i := by omega
    rw [rparts, e]
    exact (E.Own.ext (E.Own.mono ho x2.size) (E.Ext.refl _))

theorem route_New_yes (w : World) (v : E.Sl) (ps : List Key) (hv : E.Rd w v 16 kl ps) (hl : ps.length ≤ 1000) (hok : Okps ps) :
    Calls Try.prog 16 #[v.val] w fun e w' => ∃ b u, e = .returned (.tuple #[.pointer (some ⟨b, 0, none⟩), .int .i64 0]) ∧ Ext w w' ∧ w'.rangeAt b 0 [u.val] ∧ E.Rd w' u 16 kl ps :=
  (route_New_ok w v ps hv hl).mono fun e w' ⟨hx, h⟩ => by
    rcases h with ⟨_, b, u, rfl, hb, hu⟩ | ⟨hn, _⟩
    · exact ⟨b, u, rfl, hx, hb, hu⟩
    · exact absurd hok hn
theorem route_New_no (w : World) (v : E.Sl) (ps : List Key) (hv : E.Rd w v 16 kl ps) (hl : ps.length ≤ 1000) (hok : ¬ Okps ps) :
    Calls Try.prog 16 #[v.val] w fun e w' => e = .returned (.tuple #[.pointer none, .int .i64 1]) ∧ Ext w w' :=
  (route_New_ok w v ps hv hl).mono fun e w' ⟨hx, h⟩ => by
    rcases h with ⟨hn, _⟩ | ⟨_, rfl⟩
    · exact absurd hn hok
    · exact ⟨rfl, hx⟩
theorem ref_NewRoute_yes (w : World) (v : E.Sl) (ps : List Key) (hv : E.Rd w v 16 kl ps) (hl : ps.length ≤ 1000) (hok : Okps ps) :
    Calls Try.prog 17 #[v.val] w fun e w' => ∃ b u, e = .returned (.tuple #[.pointer (some ⟨b, 0, none⟩), .bool true]) ∧ Ext w w' ∧ w'.rangeAt b 0 [u.val] ∧ E.Rd w' u 16 kl ps :=
  (ref_NewRoute_ok w v ps hv hl).mono fun e w' ⟨hx, h⟩ => by
    rcases h with ⟨_, b, u, rfl, hb, hu⟩ | ⟨hn, _⟩
    · exact ⟨b, u, rfl, hx, hb, hu⟩
    · exact absurd hok hn
theorem ref_NewRoute_no (w : World) (v : E.Sl) (ps : List Key) (hv : E.Rd w v 16 kl ps) (hl : ps.length ≤ 1000) (hok : ¬ Okps ps) :
    Calls Try.prog 17 #[v.val] w fun e w' => e = .returned (.tuple #[.pointer none, .bool false]) ∧ Ext w w' :=
  (ref_NewRoute_ok w v ps hv hl).mono fun e w' ⟨hx, h⟩ => by
    rcases h with ⟨hn, _⟩ | ⟨_, rfl⟩
    · exact absurd hn hok
    · exact ⟨rfl, hx⟩

abbrev keyM : Key := kofK ⟨#[109]⟩
abbrev keyA : Key := kofK ⟨#[97]⟩
theorem ok_m : Okps [keyM] := by
  refine ⟨fun i hi p hp => ?_, by simp⟩
  have : i = 0 := by simpa using hi
  subst this
  simp at hp
  subst hp
  exact ⟨by rfl, fun q h => by omega⟩
theorem law17_awake_ok (w : World) : Calls Try.prog 14 #[] w fun e w' => e = .returned (.bool true) ∧ Ext w w' := by
  have hlm : [keyM].length = 1 := rfl
  have h1 : ofI [keyM] keyA = 0 := by rfl
  have h2 : ofI [keyM] keyM = 1 := by rfl
  refine E.calls_of_RL Try.func14 rfl Try.ntmps14 (Nat.le_of_ble_eq_true rfl) ?_
  refine E.RL_seq ?_
  refine E.RL_region ?_
  refine E.OW_val (v := .bool false) rfl (E.r_assign rfl) rfl ?_
  refine E.OW_nil ?_
  refine E.nx_normal ?_
  refine E.RL_seq ?_
  refine E.RL_region ?_
  refine E.OW_call rfl (E.r_call Try.func94 rfl rfl (E.args1 rfl)) rfl ((law17_k_ok w (⟨#[109]⟩)).mono ?_)
  rintro _ w1 ⟨rfl, x2⟩
  refine ⟨_, rfl, ?_⟩
  refine E.OW_lit1 (enc := kl) (y := (kofK (⟨#[109]⟩))) rfl rfl Try.underlying22 el24 kl_len (by omega) rfl (fun v3 w4 x5 ho6 => ?_)
  have x7 := E.Ext.trans x2 x5
  refine E.OW_call rfl (E.r_call Try.func16 rfl rfl (E.args1 rfl)) rfl ((route_New_yes w4 v3 [keyM] (E.Rd.ext (E.Own.rd ho6 kl_len) (E.Ext.refl _)) (by simp) ok_m).mono ?_)
  rintro _ w8 ⟨b, u, rfl, x9, hb, hu⟩
  refine ⟨_, rfl, ?_⟩
  have x10 := E.Ext.trans x7 x9
  have x11 := E.Ext.trans x5 x9
  refine E.OW_val (v := .tuple #[.pointer (some ⟨b, 0, none⟩), .int .i64 0]) rfl (E.r_move rfl) rfl ?_
  refine E.OW_val (v := .pointer (some ⟨b, 0, none⟩)) rfl (E.r_extract rfl rfl) rfl ?_
  refine E.OW_val (v := .int .i64 0) rfl (E.r_extract rfl rfl) rfl ?_
  refine E.OW_val (v := .pointer (some ⟨b, 0, none⟩)) rfl (E.r_assign rfl) rfl ?_
  refine E.OW_val (v := .int .i64 0) rfl (E.r_assign rfl) rfl ?_
  refine E.OW_nil ?_
  refine E.nx_normal ?_
  refine E.RL_seq ?_
  refine E.RL_region ?_
  refine E.OW_val (v := .int .i64 0) rfl (E.r_move rfl) rfl ?_
  refine E.OW_val (v := .bool (decide ((0 : Int) = 0))) rfl (E.r_eql rfl rfl) rfl ?_
  refine E.OW_val (v := .bool (decide ((0 : Int) = 0))) rfl (E.r_move rfl) rfl ?_
  have hk12 : (decide ((0 : Int) = 0)) = true := (by rfl)
  refine E.OW_yes rfl rfl rfl hk12 ?_
  refine E.OW_val (v := .pointer (some ⟨b, 0, none⟩)) rfl (E.r_move rfl) rfl ?_
  refine E.OW_yes rfl rfl rfl hk12 ?_
  refine E.OW_val (v := .bool true) rfl (E.r_neqN (p := some ⟨b, 0, none⟩) Try.underlying28 rfl rfl) rfl ?_
  refine E.OW_val (v := .bool true) rfl (E.r_pick_t rfl hk12 rfl) rfl ?_
  refine E.OW_val (v := .bool true) rfl (E.r_move rfl) rfl ?_
  refine E.OW_yes rfl rfl rfl rfl ?_
  refine E.OW_val (v := .pointer (some ⟨b, 0, none⟩)) rfl (E.r_move rfl) rfl ?_
  refine E.OW_yes rfl rfl rfl rfl ?_
  refine E.OW_call rfl (E.r_call Try.func94 rfl rfl (E.args1 rfl)) rfl ((law17_k_ok w8 (⟨#[97]⟩)).mono ?_)
  rintro _ w13 ⟨rfl, x14⟩
  refine ⟨_, rfl, ?_⟩
  have x15 := E.Ext.trans x10 x14
  have x16 := E.Ext.trans x11 x14
  have x17 := E.Ext.trans x9 x14
  refine E.OW_yes rfl rfl rfl rfl ?_
  refine E.OW_call rfl (E.r_call Try.func22 rfl rfl (E.args2 rfl rfl)) rfl ((route_Of_ok w13 b u ([keyM]) (kofK (⟨#[97]⟩)) (E.ext_range hb x14) (hu.ext x14) (by omega)).mono ?_)
  rintro _ w18 ⟨rfl, x19⟩
  refine ⟨_, rfl, ?_⟩
  have x20 := E.Ext.trans x15 x19
  have x21 := E.Ext.trans x16 x19
  have x22 := E.Ext.trans x17 x19
  have x23 := E.Ext.trans x14 x19
  refine E.OW_yes rfl rfl rfl rfl ?_
  refine E.OW_val (v := .bool (decide ((ofI ([keyM]) (kofK (⟨#[97]⟩))) = 0))) rfl (E.r_eql rfl rfl) rfl ?_
  refine E.OW_val (v := .bool (decide ((ofI ([keyM]) (kofK (⟨#[97]⟩))) = 0))) rfl (E.r_pick_t rfl rfl rfl) rfl ?_
  refine E.OW_val (v := .bool (decide ((ofI ([keyM]) (kofK (⟨#[97]⟩))) = 0))) rfl (E.r_move rfl) rfl ?_
  have hk24 : (decide ((ofI ([keyM]) (kofK (⟨#[97]⟩))) = 0)) = true := (by rw [h1]; rfl)
  refine E.OW_yes rfl rfl rfl hk24 ?_
  refine E.OW_val (v := .pointer (some ⟨b, 0, none⟩)) rfl (E.r_move rfl) rfl ?_
  refine E.OW_yes rfl rfl rfl hk24 ?_
  refine E.OW_call rfl (E.r_call Try.func94 rfl rfl (E.args1 rfl)) rfl ((law17_k_ok w18 (⟨#[109]⟩)).mono ?_)
  rintro _ w25 ⟨rfl, x26⟩
  refine ⟨_, rfl, ?_⟩
  have x27 := E.Ext.trans x20 x26
  have x28 := E.Ext.trans x21 x26
  have x29 := E.Ext.trans x22 x26
  have x30 := E.Ext.trans x23 x26
  have x31 := E.Ext.trans x19 x26
  refine E.OW_yes rfl rfl rfl hk24 ?_
  refine E.OW_call rfl (E.r_call Try.func22 rfl rfl (E.args2 rfl rfl)) rfl ((route_Of_ok w25 b u ([keyM]) (kofK (⟨#[109]⟩)) (E.ext_range hb x30) (hu.ext x30) (by omega)).mono ?_)
  rintro _ w32 ⟨rfl, x33⟩
  refine ⟨_, rfl, ?_⟩
  have x34 := E.Ext.trans x27 x33
  have x35 := E.Ext.trans x28 x33
  have x36 := E.Ext.trans x29 x33
  have x37 := E.Ext.trans x30 x33
  have x38 := E.Ext.trans x31 x33
  have x39 := E.Ext.trans x26 x33
  refine E.OW_yes rfl rfl rfl hk24 ?_
  refine E.OW_val (v := .bool (decide ((ofI ([keyM]) (kofK (⟨#[109]⟩))) = 1))) rfl (E.r_eql rfl rfl) rfl ?_
  refine E.OW_val (v := .bool (decide ((ofI ([keyM]) (kofK (⟨#[109]⟩))) = 1))) rfl (E.r_pick_t rfl hk24 rfl) rfl ?_
  refine E.OW_val (v := .bool (decide ((ofI ([keyM]) (kofK (⟨#[109]⟩))) = 1))) rfl (E.r_move rfl) rfl ?_
  have hk40 : (decide ((ofI ([keyM]) (kofK (⟨#[109]⟩))) = 1)) = true := (by rw [h2]; rfl)
  refine E.OW_yes rfl rfl rfl hk40 ?_
  refine E.OW_val (v := .pointer (some ⟨b, 0, none⟩)) rfl (E.r_move rfl) rfl ?_
  refine E.OW_yes rfl rfl rfl hk40 ?_
  refine E.OW_call rfl (E.r_call Try.func20 rfl rfl (E.args1 rfl)) rfl ((route_Nodes_ok w32 b u ([keyM]) (E.ext_range hb x37) (hu.ext x37) (by omega)).mono ?_)
  rintro _ w41 ⟨rfl, x42⟩
  refine ⟨_, rfl, ?_⟩
  have x43 := E.Ext.trans x34 x42
  have x44 := E.Ext.trans x35 x42
  have x45 := E.Ext.trans x36 x42
  have x46 := E.Ext.trans x37 x42
  have x47 := E.Ext.trans x38 x42
  have x48 := E.Ext.trans x39 x42
  have x49 := E.Ext.trans x33 x42
  refine E.OW_yes rfl rfl rfl hk40 ?_
  refine E.OW_val (v := .bool (decide (((([keyM]).length + 1 : Nat) : Int) = 2))) rfl (E.r_eql rfl rfl) rfl ?_
  refine E.OW_val (v := .bool (decide (((([keyM]).length + 1 : Nat) : Int) = 2))) rfl (E.r_pick_t rfl hk40 rfl) rfl ?_
  refine E.OW_val (v := .bool (decide (((([keyM]).length + 1 : Nat) : Int) = 2))) rfl (E.r_assign rfl) rfl ?_
  refine E.OW_nil ?_
  refine E.nx_normal ?_
  refine E.RL_ret ?_
  refine E.post_ret (E.res1 rfl) ?_
  exact ⟨rfl, x43⟩
end Go.Proofs.Ytmajbdehejhbfaa
