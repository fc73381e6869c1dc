/-
  The contracts of the routes' functions: parts and covers.
-/
import Derived.Test.YtmajbdehejhbfaaRoute
import Derived.Test.YtmajbdehejhbfaaSortI
namespace Go.Proofs.Ytmajbdehejhbfaa
open Go Go.RowKit

/-- The nodes of writes, one by one; those of none left out. -/
def pnodes (ps : List Key) (ws : List Write) : List Int := (ws.map fun x => ofI ps x.key).filter fun n => decide (0 ≤ n)
theorem pnodes_le (ps : List Key) (ws : List Write) : (pnodes ps ws).length ≤ ws.length := by
  rw [pnodes]; exact Nat.le_trans (List.length_filter_le _ _) (by simp)
theorem pnodes_snoc (ps : List Key) (ws : List Write) (i : Nat) (x : Write) (h : ws[i]? = some x) : pnodes ps (ws.take (i + 1)) = pnodes ps (ws.take i) ++ if 0 ≤ ofI ps x.key then [ofI ps x.key] else [] := by
  obtain ⟨hi, rfl⟩ := List.getElem?_eq_some_iff.1 h
  rw [List.take_succ_eq_append_getElem hi, pnodes, List.map_append, List.filter_append, pnodes]
  congr 1
  by_cases hk : 0 ≤ ofI ps ws[i].key <;> simp [hk]
def parts (ps : List Key) (ws : List Write) : List Int := Lib.compact ((pnodes ps ws).mergeSort fun x y => decide (x ≤ y))
theorem route_Parts_ok (w : World) (b : Nat) (v u : E.Sl) (ps : List Key) (ws : List Write) (hb : w.rangeAt b 0 [v.val]) (hv : E.Rd w v 16 kl ps) (hl : ps.length ≤ 1000) (hu : E.Rd w u 18 wl ws) (hlw : ws.length ≤ 1000) :
    Calls Try.prog 25 #[.pointer (some ⟨b, 0, none⟩), u.val] w fun e w' => ∃ r : E.Sl, e = .returned r.val ∧ Ext w w' ∧ E.Own w.heap.size w' r 3 1 il (parts ps ws) := by
  have hlen := hu.1
  have hlen2 := hv.1
  refine E.calls_of_RL Try.func25 rfl Try.ntmps25 (Nat.le_of_ble_eq_true rfl) ?_
  refine E.RL_seq ?_
  refine E.RL_region ?_
  refine E.OW_val (v := .slice none 0 0) rfl (E.r_assign rfl) rfl ?_
  refine E.OW_nil ?_
  refine E.nx_normal ?_
  refine E.RL_seq ?_
  refine E.RL_region ?_
  refine E.OW_val (v := .slice none 0 0) rfl (E.r_assign rfl) rfl ?_
  refine E.OW_nil ?_
  refine E.nx_normal ?_
  refine E.RL_seq ?_
  refine E.RL_seq ?_
  refine E.RL_region ?_
  refine E.OW_val (v := u.val) rfl (E.r_move rfl) rfl ?_
  refine E.OW_val (v := .int .i64 ((u.len : Nat) : Int)) rfl (E.r_len Try.underlying25 rfl) rfl ?_
  refine E.OW_val (v := .int .i64 0) rfl (E.r_move rfl) rfl ?_
  refine E.OW_nil ?_
  refine E.nx_normal ?_
  refine E.RL_block ?_
  refine E.RL_loopg (fun m_ (g_ : Nat × E.Sl × List Int) ρ_ w_ => match g_ with | ⟨i, r, l⟩ => m_ = ws.length - i ∧ ρ_ 0 = .pointer (some ⟨b, 0, none⟩) ∧ ρ_ 4 = .slice none 0 0 ∧ ρ_ 9 = u.val ∧ ρ_ 10 = .int .i64 ((u.len : Nat) : Int) ∧ ρ_ 11 = .int .i64 ((i : Nat) : Int) ∧ ρ_ 5 = r.val ∧ E.Ext w w_ ∧ i ≤ ws.length ∧ l = pnodes ps (ws.take i) ∧ E.Own w.heap.size w_ r 3 1 il l) _ ((0, E.Sl.nil, [])) ⟨rfl, rfl, rfl, rfl, rfl, rfl, rfl, (E.Ext.refl _), ⟨by omega, rfl, E.Own.nil _ _ _ _ _⟩⟩ ?_
  rintro _ (⟨i, r, l⟩) r2 w1 ⟨rfl, e0_r2, e4_r2, e9_r2, e10_r2, e11_r2, e5_r2, x3, hinv_r2⟩
  have hinv := hinv_r2
  obtain ⟨hi, hpl, ho⟩ := hinv
  have hll := pnodes_le ps (ws.take i)
  rw [← hpl, List.length_take] at hll
  refine E.RL_seq ?_
  refine E.RL_region ?_
  refine E.OW_val (v := .bool (decide (((i : Nat) : Int) < ((u.len : Nat) : Int)))) rfl (E.r_lss e11_r2 e10_r2) rfl ?_
  refine E.OW_nil ?_
  refine E.nx_normal ?_
  refine E.RL_seq ?_
  refine E.RL_cond rfl (fun h1 => ?_) (fun h1 => ?_)
  · skip
    have h1' := of_decide_eq_true h1
    refine E.RL_skip ?_
    refine E.nx_normal ?_
    refine E.RL_seq ?_
    refine E.RL_block ?_
    refine E.RL_seq ?_
    refine E.RL_region ?_
    obtain ⟨y4, hy5⟩ : ∃ y, ws[i]? = some y := ⟨_, List.getElem?_eq_getElem (by first | omega | (have := hu.1; omega))⟩
    refine E.OW_val (v := .pointer (some ⟨u.b, u.o + i * 18, none⟩)) rfl (E.r_indexSl e9_r2 e11_r2 Try.underlying25 ts64 hu hy5) rfl ?_
    refine E.OW_val (v := .agg (wl y4).toArray) rfl (E.r_load rfl (E.ldk Try.underlying64 rfl (ts64.trans (congrArg some (wl_len _).symm)) (hu.at_ x3 hy5))) rfl ?_
    refine E.OW_alloc (z := .agg (wl zeroW).toArray) (cs := wl zeroW) (by kernel_rfl) rfl rfl (fun b6 w7 hb8 x9 hz10 hr11 ht12 => ?_)
    have x13 := E.Ext.trans x3 x9
    have ht14 : World.there w7 b6 0 18 := by rw [wl_len] at ht12; exact ht12
    refine E.OW_stk (cs := wl y4) rfl rfl rfl (ts64.trans (congrArg some (wl_len _).symm)) (wl_one _) (by rw [wl_len]; exact (E.ext_there ht14 (E.Ext.refl _))) rfl (fun w15 hs16 _ => ?_)
    have x17 := hs16.1 _ x13 (by first | omega | (have := x3.size; omega))
    have x18 := hs16.1 _ x9 (by first | omega | (have := (E.Ext.refl _).size; omega))
    have hr19 := hs16.2.2.1
    have ht20 := hs16.2.2.2.1 _ _ _ (E.ext_there ht14 (E.Ext.refl _))
    refine E.OW_nil ?_
    refine E.nx_normal ?_
    refine E.RL_seq ?_
    refine E.RL_region ?_
    refine E.OW_val (v := .pointer (some ⟨b, 0, none⟩)) rfl (E.r_move e0_r2) rfl ?_
    refine E.OW_val (v := .pointer (some ⟨b6, 0, none⟩)) rfl (E.r_field rfl fo64_0) rfl ?_
    refine E.OW_val (v := .agg (kl y4.key).toArray) rfl (E.r_load rfl (E.ldk Try.underlying24 rfl (ts24.trans (congrArg some (kl_len _).symm)) (wl_key (E.ext_range hr19 (E.Ext.refl _))))) rfl ?_
    refine E.OW_call rfl (E.r_call Try.func22 rfl rfl (E.args2 rfl rfl)) rfl ((route_Of_ok w15 b v ps y4.key (E.ext_range hb x17) (hv.ext x17) (by omega)).mono ?_)
    rintro _ w21 ⟨rfl, x22⟩
    refine ⟨_, rfl, ?_⟩
    have x23 := E.Ext.trans x17 x22
    have x24 := E.Ext.trans x18 x22
    refine E.OW_val (v := .int .i64 (ofI ps y4.key)) rfl (E.r_assign rfl) rfl ?_
    refine E.OW_nil ?_
    refine E.nx_normal ?_
    refine E.RL_seq ?_
    refine E.RL_region ?_
    refine E.OW_val (v := .int .i64 (ofI ps y4.key)) rfl (E.r_move rfl) rfl ?_
    refine E.OW_val (v := .bool (decide (0 ≤ (ofI ps y4.key)))) rfl (E.r_geq rfl rfl) rfl ?_
    refine E.OW_nil ?_
    refine E.nx_normal ?_
    refine E.RL_cond rfl (fun h2 => ?_) (fun h2 => ?_)
    · skip
      have h2' := of_decide_eq_true h2
      refine E.RL_region ?_
      refine E.OW_val (v := r.val) rfl (E.r_move e5_r2) rfl ?_
      refine E.OW_val (v := .int .i64 (ofI ps y4.key)) rfl (E.r_move rfl) rfl ?_
      refine E.OW_lit1 (enc := il) (y := (ofI ps y4.key)) rfl rfl Try.underlying42 el3 il_len (by omega) rfl (fun v25 w26 x27 ho28 => ?_)
      have x29 := E.Ext.trans x23 x27
      have x30 := E.Ext.trans x24 x27
      have x31 := E.Ext.trans x22 x27
      refine E.OW_append (base := w.heap.size) (enc := il) (v := r) (u := v25) (l := l) (m := ([(ofI ps y4.key)])) rfl rfl Try.underlying42 el3 il_len (by omega) il_one (E.Own.ext ho x30) ((E.Own.rd ho28 il_len).ext (E.Ext.refl _)) (by first | omega | (simp only [List.length_cons, List.length_nil, List.length_append, List.length_replicate]; omega)) x29.size rfl (fun v32 w33 ho34 hg35 _ => ?_)
      have x36 := E.ext_grown x29 hg35 (fun k_ hk_ => Nat.le_trans (Nat.le_refl _) (E.Own.above (E.Own.ext ho x30) k_ hk_))
      have hr37 := E.range_grown (E.ext_range hr19 x31) hg35 (E.Own.ne ho (E.Ext.refl _).size hb8)
      have ht38 := E.there_grown (E.ext_there ht20 x31) hg35 (E.Own.ne ho (E.Ext.refl _).size hb8)
      refine E.OW_val (v := v32.val) rfl (E.r_assign rfl) rfl ?_
      refine E.OW_nil ?_
      refine E.blk_normal ?_
      refine E.nx_normal ?_
      refine E.RL_region ?_
      refine E.OW_val (v := .int .i64 ((i + 1 : Nat) : Int)) rfl (E.r_add e11_r2 rfl (by rw [E.wrap_i64 (by omega) (by omega)]; omega)) rfl ?_
      refine E.OW_val (v := .int .i64 ((i + 1 : Nat) : Int)) rfl (E.r_move rfl) rfl ?_
      refine E.OW_nil ?_
      refine E.nx_normal ?_
      refine ⟨_, (i + 1, v32, l ++ ([(ofI ps y4.key)])), ?_, rfl, e0_r2, e4_r2, e9_r2, e10_r2, rfl, rfl, x36, ⟨by omega, ?_, (E.Own.ext (E.Own.mono ho34 (Nat.le_refl _)) (E.Ext.refl _))⟩⟩
      omega
      rw [pnodes_snoc ps ws i _ hy5, if_pos h2', hpl]
    · skip
      have h2' := of_decide_eq_false h2
      refine E.RL_skip ?_
      refine E.blk_normal ?_
      refine E.nx_normal ?_
      refine E.RL_region ?_
      refine E.OW_val (v := .int .i64 ((i + 1 : Nat) : Int)) rfl (E.r_add e11_r2 rfl (by rw [E.wrap_i64 (by omega) (by omega)]; omega)) rfl ?_
      refine E.OW_val (v := .int .i64 ((i + 1 : Nat) : Int)) rfl (E.r_move rfl) rfl ?_
      refine E.OW_nil ?_
      refine E.nx_normal ?_
      refine ⟨_, (i + 1, r, l), ?_, rfl, e0_r2, e4_r2, e9_r2, e10_r2, rfl, e5_r2, x23, ⟨by omega, ?_, (E.Own.ext (E.Own.mono ho (Nat.le_refl _)) x24)⟩⟩
      omega
      rw [pnodes_snoc ps ws i _ hy5, if_neg h2', List.append_nil, hpl]
  · skip
    have h1' := of_decide_eq_false h1
    have hpf : l = pnodes ps ws := by rw [hpl, List.take_of_length_le (by omega)]
    refine E.RL_exit ?_
    refine E.nx_exit ?_
    refine E.nx_exit ?_
    refine E.blk_eq ?_
    refine E.nx_normal ?_
    refine E.RL_seq ?_
    refine E.RL_region ?_
    refine E.OW_val (v := r.val) rfl (E.r_move e5_r2) rfl ?_
    refine E.OW_call rfl (E.r_call Try.func100 rfl rfl (E.args1 rfl)) rfl ((Sort_int_ok w1 w.heap.size r l (E.Own.ext ho (E.Ext.refl _)) (by first | omega | (simp only [List.length_map, List.length_append, List.length_cons, List.length_nil]; omega))).mono ?_)
    rintro _ w41 ⟨rfl, hg42, ho43⟩
    refine ⟨_, rfl, ?_⟩
    have x44 := E.ext_grown x3 hg42 (fun k_ hk_ => Nat.le_trans (Nat.le_refl _) (E.Own.above (E.Own.ext ho (E.Ext.refl _)) k_ hk_))
    refine E.OW_nil ?_
    refine E.nx_normal ?_
    refine E.RL_seq ?_
    refine E.RL_region ?_
    refine E.OW_val (v := r.val) rfl (E.r_move e5_r2) rfl ?_
    refine E.OW_call rfl (E.r_call Try.func101 rfl rfl (E.args1 rfl)) rfl ((Compact_int_ok w41 w.heap.size r (l.mergeSort fun x y => decide (x ≤ y)) (E.Own.ext ho43 (E.Ext.refl _)) (by first | omega | (simp only [List.length_mergeSort, List.length_map, List.length_append, List.length_cons, List.length_nil]; omega))).mono ?_)
    rintro _ w48 ⟨q47, rfl, hg49, ho50⟩
    refine ⟨_, rfl, ?_⟩
    have x51 := E.ext_grown x44 hg49 (fun k_ hk_ => Nat.le_trans (Nat.le_refl _) (E.Own.above (E.Own.ext ho43 (E.Ext.refl _)) k_ hk_))
    refine E.OW_val (v := q47.val) rfl (E.r_assign rfl) rfl ?_
    refine E.OW_nil ?_
    refine E.nx_normal ?_
    refine E.RL_ret ?_
    refine E.post_ret (E.res1 rfl) ?_
    refine ⟨_, rfl, x51, ?_⟩
    rw [parts, ← hpf]
    exact (E.Own.ext (E.Own.mono ho50 (Nat.le_refl _)) (E.Ext.refl _))

open Classical in
/-- The nodes that hold keys from lo on, below hi (nought: no end). -/
def CovAt (ps : List Key) (lo hi : Key) (i : Nat) : Prop :=
  (i = ps.length ∨ ∃ p, ps[i]? = some p ∧ 0 < kcmp p lo) ∧ (i = 0 ∨ hi = zeroK ∨ ∃ q, ps[i - 1]? = some q ∧ kcmp q hi < 0) ∧ (hi = zeroK ∨ 0 < kcmp hi lo)
open Classical in
noncomputable def cov (ps : List Key) (lo hi : Key) (n : Nat) : List Int := ((List.range n).filter fun i => decide (CovAt ps lo hi i)).map fun i => ((i : Nat) : Int)
open Classical in
theorem cov_succ (ps : List Key) (lo hi : Key) (n : Nat) : cov ps lo hi (n + 1) = cov ps lo hi n ++ if CovAt ps lo hi n then [((n : Nat) : Int)] else [] := by
  rw [cov, List.range_succ, List.filter_append, List.map_append, cov]
  congr 1
  by_cases h : CovAt ps lo hi n <;> simp [h]
open Classical in
theorem cov_le (ps : List Key) (lo hi : Key) (n : Nat) : (cov ps lo hi n).length ≤ n := by
  rw [cov, List.length_map]; exact Nat.le_trans (List.length_filter_le _ _) (by simp)
theorem cov_none (ps : List Key) (lo hi : Key) (h : ¬ (hi = zeroK ∨ 0 < kcmp hi lo)) (n : Nat) : cov ps lo hi n = [] := by
  induction n with
  | zero => simp [cov]
  | succ n ih => rw [cov_succ, ih, if_neg (fun hc => h hc.2.2)]; rfl

theorem route_Cover_ok (w : World) (b : Nat) (v : E.Sl) (ps : List Key) (lo hi : Key) (hb : w.rangeAt b 0 [v.val]) (hv : E.Rd w v 16 kl ps) (hl : ps.length ≤ 1000) :
    Calls Try.prog 27 #[.pointer (some ⟨b, 0, none⟩), kv lo, kv hi] w fun e w' => ∃ r : E.Sl, e = .returned r.val ∧ Ext w w' ∧ E.Own w.heap.size w' r 3 1 il (cov ps lo hi (ps.length + 1)) := by
  have hlen := hv.1
  refine E.calls_of_RL Try.func27 rfl Try.ntmps27 (Nat.le_of_ble_eq_true rfl) ?_
  refine E.RL_seq ?_
  refine E.RL_region ?_
  refine E.OW_box (v := .agg (kl lo).toArray) (cs := kl lo) rfl rfl rfl (fun b1 w2 hb3 x4 hz5 hr6 ht7 => ?_)
  have ht8 : World.there w2 b1 0 16 := by rw [kl_len] at ht7; exact ht7
  refine E.OW_box (v := .agg (kl hi).toArray) (cs := kl hi) rfl rfl rfl (fun b9 w10 hb11 x12 hz13 hr14 ht15 => ?_)
  have x16 := E.Ext.trans x4 x12
  have ht17 : World.there w10 b9 0 16 := by rw [kl_len] at ht15; exact ht15
  refine E.OW_val (v := .slice none 0 0) rfl (E.r_assign rfl) rfl ?_
  refine E.OW_nil ?_
  refine E.nx_normal ?_
  refine E.RL_seq ?_
  refine E.RL_region ?_
  refine E.OW_val (v := .agg (kl hi).toArray) rfl (E.r_load rfl (E.ldk Try.underlying24 rfl (ts24.trans (congrArg some (kl_len _).symm)) (E.ext_range hr14 (E.Ext.refl _)))) rfl ?_
  refine E.OW_val (v := .agg (kl zeroK).toArray) rfl (E.r_build0 (z := .agg (kl zeroK).toArray) (fun _ => by kernel_rfl)) rfl ?_
  refine E.OW_val (v := .bool (decide (hi = zeroK))) rfl (r_eqlK rfl rfl) rfl ?_
  refine E.OW_val (v := .bool (decide (hi = zeroK))) rfl (E.r_assign rfl) rfl ?_
  refine E.OW_nil ?_
  refine E.nx_normal ?_
  refine E.RL_seq ?_
  refine E.RL_cut (fun ρ_ w_ => ∃ c : Bool, ρ_ 0 = .pointer (some ⟨b, 0, none⟩) ∧ ρ_ 4 = .pointer (some ⟨b1, 0, none⟩) ∧ ρ_ 5 = .pointer (some ⟨b9, 0, none⟩) ∧ ρ_ 6 = .slice none 0 0 ∧ ρ_ 7 = .bool (decide (hi = zeroK)) ∧ ρ_ 22 = .bool c ∧ ρ_ 7 = .bool (decide (hi = zeroK)) ∧ E.Ext w10 w_ ∧ c = decide (hi ≠ zeroK ∧ kcmp hi lo ≤ 0)) ?_ ?_
  · skip
    refine E.RL_region ?_
    refine E.OW_val (v := .bool (decide (hi = zeroK))) rfl (E.r_move rfl) rfl ?_
    refine E.OW_val (v := .bool (!(decide (hi = zeroK)))) rfl (E.r_not rfl) rfl ?_
    refine E.OW_val (v := .bool (!(decide (hi = zeroK)))) rfl (E.r_move rfl) rfl ?_
    rcases E.bool_cases (!(decide (hi = zeroK))) with h1 | h1
    · skip
      have h1' : hi ≠ zeroK := by simpa using h1
      refine E.OW_yes rfl rfl rfl h1 ?_
      refine E.OW_val (v := .agg (kl hi).toArray) rfl (E.r_load rfl (E.ldk Try.underlying24 rfl (ts24.trans (congrArg some (kl_len _).symm)) (E.ext_range hr14 (E.Ext.refl _)))) rfl ?_
      refine E.OW_yes rfl rfl rfl h1 ?_
      refine E.OW_val (v := .agg (kl lo).toArray) rfl (E.r_load rfl (E.ldk Try.underlying24 rfl (ts24.trans (congrArg some (kl_len _).symm)) (E.ext_range hr6 x12))) rfl ?_
      refine E.OW_yes rfl rfl rfl h1 ?_
      refine E.OW_call rfl (E.r_call Try.func96 rfl rfl (E.args2 rfl rfl)) rfl ((key_Cmp_ok w10 hi lo).mono ?_)
      rintro _ w20 ⟨rfl, x21⟩
      refine ⟨_, rfl, ?_⟩
      have x22 := E.Ext.trans x16 x21
      have x23 := E.Ext.trans x12 x21
      refine E.OW_yes rfl rfl rfl h1 ?_
      refine E.OW_val (v := .bool (decide ((kcmp hi lo) ≤ 0))) rfl (E.r_leq rfl rfl) rfl ?_
      refine E.OW_val (v := .bool (decide ((kcmp hi lo) ≤ 0))) rfl (E.r_pick_t rfl h1 rfl) rfl ?_
      refine E.OW_nil ?_
      refine E.nx_normal ?_
      refine ⟨_, rfl, rfl, rfl, rfl, rfl, rfl, rfl, x21, ?_⟩
      simp [h1']
    · skip
      have h1' : hi = zeroK := by simpa using h1
      refine E.OW_no rfl rfl rfl h1 rfl ?_
      refine E.OW_no rfl rfl rfl h1 rfl ?_
      refine E.OW_no rfl rfl rfl h1 rfl ?_
      refine E.OW_no rfl rfl rfl h1 rfl ?_
      refine E.OW_val (v := .bool false) rfl (E.r_pick_f rfl h1 rfl) rfl ?_
      refine E.OW_nil ?_
      refine E.nx_normal ?_
      refine ⟨_, rfl, rfl, rfl, rfl, rfl, rfl, rfl, (E.Ext.refl _), ?_⟩
      simp [h1']
  rintro r19 w18 ⟨c, e0_r19, e4_r19, e5_r19, e6_r19, e7_r19, e22_r19, e7_r19, x24, hinv_r19⟩
  have hinv := hinv_r19
  have x25 := E.Ext.trans x16 x24
  have x26 := E.Ext.trans x12 x24
  refine E.RL_cond e22_r19 (fun h1 => ?_) (fun h1 => ?_)
  · skip
    have hn : ¬ (hi = zeroK ∨ 0 < kcmp hi lo) := by
      rw [hinv] at h1
      have := of_decide_eq_true h1
      rintro (h | h)
      · exact this.1 h
      · omega
    refine E.RL_seq ?_
    refine E.RL_region ?_
    refine E.OW_val (v := .slice none 0 0) rfl (E.r_assign rfl) rfl ?_
    refine E.OW_nil ?_
    refine E.nx_normal ?_
    refine E.RL_ret ?_
    refine E.nx_ret ?_
    refine E.post_ret (E.res1 rfl) ?_
    refine ⟨E.Sl.nil, rfl, x25, ?_⟩
    rw [cov_none ps lo hi hn]
    exact E.Own.nil _ _ _ _ _
  · skip
    have hy : hi = zeroK ∨ 0 < kcmp hi lo := by
      rw [hinv] at h1
      have := of_decide_eq_false h1
      by_cases h : hi = zeroK
      · exact .inl h
      · refine .inr ?_
        by_cases h' : 0 < kcmp hi lo
        · exact h'
        · exact absurd ⟨h, by omega⟩ this
    clear h1 hinv
    refine E.RL_skip ?_
    refine E.nx_normal ?_
    refine E.RL_seq ?_
    refine E.RL_region ?_
    refine E.OW_val (v := .slice none 0 0) rfl (E.r_assign rfl) rfl ?_
    refine E.OW_nil ?_
    refine E.nx_normal ?_
    refine E.RL_seq ?_
    refine E.RL_seq ?_
    refine E.RL_region ?_
    refine E.OW_val (v := .pointer (some ⟨b, 0, none⟩)) rfl (E.r_move e0_r19) rfl ?_
    refine E.OW_call rfl (E.r_call Try.func20 rfl rfl (E.args1 rfl)) rfl ((route_Nodes_ok w18 b v ps (E.ext_range hb x25) (hv.ext x25) (by omega)).mono ?_)
    rintro _ w27 ⟨rfl, x28⟩
    refine ⟨_, rfl, ?_⟩
    have x29 := E.Ext.trans x25 x28
    have x30 := E.Ext.trans x26 x28
    have x31 := E.Ext.trans x24 x28
    refine E.OW_val (v := .int .i64 0) rfl (E.r_move rfl) rfl ?_
    refine E.OW_nil ?_
    refine E.nx_normal ?_
    refine E.RL_block ?_
    refine E.RL_loopg (fun m_ (g_ : Nat × E.Sl) ρ_ w_ => match g_ with | ⟨i, r⟩ => m_ = ps.length + 1 - i ∧ ρ_ 0 = .pointer (some ⟨b, 0, none⟩) ∧ ρ_ 4 = .pointer (some ⟨b1, 0, none⟩) ∧ ρ_ 5 = .pointer (some ⟨b9, 0, none⟩) ∧ ρ_ 6 = .slice none 0 0 ∧ ρ_ 7 = .bool (decide (hi = zeroK)) ∧ ρ_ 24 = .int .i64 ((ps.length + 1 : Nat) : Int) ∧ ρ_ 25 = .int .i64 ((i : Nat) : Int) ∧ ρ_ 8 = r.val ∧ E.Ext w27 w_ ∧ i ≤ ps.length + 1 ∧ E.Own w27.heap.size w_ r 3 1 il (cov ps lo hi i)) _ ((0, E.Sl.nil)) ⟨rfl, e0_r19, e4_r19, e5_r19, e6_r19, e7_r19, rfl, rfl, rfl, (E.Ext.refl _), ⟨by omega, E.Own.nil _ _ _ _ _⟩⟩ ?_
    rintro _ (⟨i, r⟩) r33 w32 ⟨rfl, e0_r33, e4_r33, e5_r33, e6_r33, e7_r33, e24_r33, e25_r33, e8_r33, x34, hinv_r33⟩
    have hinv := hinv_r33
    have x35 := E.Ext.trans x29 x34
    have x36 := E.Ext.trans x30 x34
    have x37 := E.Ext.trans x31 x34
    have x38 := E.Ext.trans x28 x34
    obtain ⟨hi', ho⟩ := hinv
    have hcl := cov_le ps lo hi i
    refine E.RL_seq ?_
    refine E.RL_region ?_
    refine E.OW_val (v := .bool (decide (((i : Nat) : Int) < ((ps.length + 1 : Nat) : Int)))) rfl (E.r_lss e25_r33 e24_r33) rfl ?_
    refine E.OW_nil ?_
    refine E.nx_normal ?_
    refine E.RL_seq ?_
    refine E.RL_cond rfl (fun h1 => ?_) (fun h1 => ?_)
    · skip
      have h1' := of_decide_eq_true h1
      refine E.RL_skip ?_
      refine E.nx_normal ?_
      refine E.RL_seq ?_
      refine E.RL_block ?_
      refine E.RL_seq ?_
      refine E.RL_region ?_
      refine E.OW_val (v := .int .i64 ((i : Nat) : Int)) rfl (E.r_move e25_r33) rfl ?_
      refine E.OW_val (v := .int .i64 ((i : Nat) : Int)) rfl (E.r_assign rfl) rfl ?_
      refine E.OW_nil ?_
      refine E.nx_normal ?_
      refine E.RL_cut (fun ρ_ w_ => ∃ c : Bool, ρ_ 0 = .pointer (some ⟨b, 0, none⟩) ∧ ρ_ 4 = .pointer (some ⟨b1, 0, none⟩) ∧ ρ_ 5 = .pointer (some ⟨b9, 0, none⟩) ∧ ρ_ 6 = .slice none 0 0 ∧ ρ_ 7 = .bool (decide (hi = zeroK)) ∧ ρ_ 8 = r.val ∧ ρ_ 9 = .int .i64 ((i : Nat) : Int) ∧ ρ_ 24 = .int .i64 ((ps.length + 1 : Nat) : Int) ∧ ρ_ 25 = .int .i64 ((i : Nat) : Int) ∧ ρ_ 26 = .bool (decide (((i : Nat) : Int) < ((ps.length + 1 : Nat) : Int))) ∧ ρ_ 27 = .int .i64 ((i : Nat) : Int) ∧ ρ_ 10 = .bool c ∧ E.Ext w32 w_ ∧ (c = true ↔ (i = ps.length ∨ ∃ p, ps[i]? = some p ∧ 0 < kcmp p lo))) ?_ ?_
      · skip
        refine E.RL_draw (fun w_ => E.Ext w32 w_) (by kernel_rfl) (fuel := 20) (listed := #[false, false, false, false, false, false, false, false, false, false, false, false, false, false, false, false, false, false, false, false]) rfl rfl ?_
        obtain ⟨w41, x42e⟩ : ∃ y, y = World.drew w32 := ⟨_, rfl⟩
        rw [← x42e]
        have x42 : E.Ext w32 w41 := by rw [x42e]; exact E.Ext.drew _
        clear x42e
        have x43 := E.Ext.trans x35 x42
        have x44 := E.Ext.trans x36 x42
        have x45 := E.Ext.trans x37 x42
        have x46 := E.Ext.trans x38 x42
        have x47 := E.Ext.trans x34 x42
        refine E.DW_take 0 (v := .int .i64 ((i : Nat) : Int)) rfl (by kernel_rfl) (by kernel_rfl) (by kernel_rfl) (listed' := #[true, false, false, false, false, false, false, false, false, false, false, false, false, false, false, false, false, false, false, false]) rfl rfl x42 (fun w_ hS => E.r_move rfl) rfl ?_
        refine E.DW_take 1 (v := .pointer (some ⟨b, 0, none⟩)) rfl (by kernel_rfl) (by kernel_rfl) (by kernel_rfl) (listed' := #[true, true, false, false, false, false, false, false, false, false, false, false, false, false, false, false, false, false, false, false]) rfl rfl x42 (fun w_ hS => E.r_move e0_r33) rfl ?_
        refine E.DW_take 2 (v := .pointer (some ⟨b, 0, none⟩)) rfl (by kernel_rfl) (by kernel_rfl) (by kernel_rfl) (listed' := #[true, true, true, false, false, false, false, false, false, false, false, false, false, false, false, false, false, false, false, false]) rfl rfl x42 (fun w_ hS => E.r_nil rfl) rfl ?_
        refine E.DW_take 3 (v := .pointer (some ⟨b, 0, none⟩)) rfl (by kernel_rfl) (by kernel_rfl) (by kernel_rfl) (listed' := #[true, true, true, true, false, false, false, false, false, false, false, false, false, false, false, false, false, false, false, false]) rfl rfl x42 (fun w_ hS => E.r_field rfl fo143_0) rfl ?_
        refine E.DW_take 4 (v := v.val) rfl (by kernel_rfl) (by kernel_rfl) (by kernel_rfl) (listed' := #[true, true, true, true, true, false, false, false, false, false, false, false, false, false, false, false, false, false, false, false]) rfl rfl x42 (fun w_ hS => E.r_load rfl (E.ld1 Try.underlying22 rfl ((E.ext_range hb (E.Ext.trans x35 hS)) 0 _ rfl))) rfl ?_
        refine E.DW_take 5 (v := .int .i64 ((v.len : Nat) : Int)) rfl (by kernel_rfl) (by kernel_rfl) (by kernel_rfl) (listed' := #[true, true, true, true, true, true, false, false, false, false, false, false, false, false, false, false, false, false, false, false]) rfl rfl x42 (fun w_ hS => E.r_len Try.underlying22 rfl) rfl ?_
        refine E.DW_take 6 (v := .bool (decide (((i : Nat) : Int) = ((v.len : Nat) : Int)))) rfl (by kernel_rfl) (by kernel_rfl) (by kernel_rfl) (listed' := #[true, true, true, true, true, true, true, false, false, false, false, false, false, false, false, false, false, false, false, false]) rfl rfl x42 (fun w_ hS => E.r_eql rfl rfl) rfl ?_
        refine E.DW_take 7 (v := .bool (decide (((i : Nat) : Int) = ((v.len : Nat) : Int)))) rfl (by kernel_rfl) (by kernel_rfl) (by kernel_rfl) (listed' := #[true, true, true, true, true, true, true, true, false, false, false, false, false, false, false, false, false, false, false, false]) rfl rfl x42 (fun w_ hS => E.r_move rfl) rfl ?_
        rcases E.bool_cases (decide (((i : Nat) : Int) = ((v.len : Nat) : Int))) with h2 | h2
        · skip
          have h2' := of_decide_eq_true h2
          refine E.DW_no 8 rfl (by kernel_rfl) (by kernel_rfl) (by kernel_rfl) (listed' := #[true, true, true, true, true, true, true, true, true, false, false, false, false, false, false, false, false, false, false, false]) rfl rfl rfl rfl h2 x42 rfl ?_
          refine E.DW_no 9 rfl (by kernel_rfl) (by kernel_rfl) (by kernel_rfl) (listed' := #[true, true, true, true, true, true, true, true, true, true, false, false, false, false, false, false, false, false, false, false]) rfl rfl rfl rfl h2 x42 rfl ?_
          refine E.DW_no 10 rfl (by kernel_rfl) (by kernel_rfl) (by kernel_rfl) (listed' := #[true, true, true, true, true, true, true, true, true, true, true, false, false, false, false, false, false, false, false, false]) rfl rfl rfl rfl h2 x42 rfl ?_
          refine E.DW_no 11 rfl (by kernel_rfl) (by kernel_rfl) (by kernel_rfl) (listed' := #[true, true, true, true, true, true, true, true, true, true, true, true, false, false, false, false, false, false, false, false]) rfl rfl rfl rfl h2 x42 rfl ?_
          refine E.DW_no 12 rfl (by kernel_rfl) (by kernel_rfl) (by kernel_rfl) (listed' := #[true, true, true, true, true, true, true, true, true, true, true, true, true, false, false, false, false, false, false, false]) rfl rfl rfl rfl h2 x42 rfl ?_
          refine E.DW_no 13 rfl (by kernel_rfl) (by kernel_rfl) (by kernel_rfl) (listed' := #[true, true, true, true, true, true, true, true, true, true, true, true, true, true, false, false, false, false, false, false]) rfl rfl rfl rfl h2 x42 rfl ?_
          refine E.DW_no 14 rfl (by kernel_rfl) (by kernel_rfl) (by kernel_rfl) (listed' := #[true, true, true, true, true, true, true, true, true, true, true, true, true, true, true, false, false, false, false, false]) rfl rfl rfl rfl h2 x42 rfl ?_
          refine E.DW_no 15 rfl (by kernel_rfl) (by kernel_rfl) (by kernel_rfl) (listed' := #[true, true, true, true, true, true, true, true, true, true, true, true, true, true, true, true, false, false, false, false]) rfl rfl rfl rfl h2 x42 rfl ?_
          refine E.DW_no 16 rfl (by kernel_rfl) (by kernel_rfl) (by kernel_rfl) (listed' := #[true, true, true, true, true, true, true, true, true, true, true, true, true, true, true, true, true, false, false, false]) rfl rfl rfl rfl h2 x42 rfl ?_
          refine E.DW_no 17 rfl (by kernel_rfl) (by kernel_rfl) (by kernel_rfl) (listed' := #[true, true, true, true, true, true, true, true, true, true, true, true, true, true, true, true, true, true, false, false]) rfl rfl rfl rfl h2 x42 rfl ?_
          refine E.DW_take 18 (v := .bool true) rfl (by kernel_rfl) (by kernel_rfl) (by kernel_rfl) (listed' := #[true, true, true, true, true, true, true, true, true, true, true, true, true, true, true, true, true, true, true, false]) rfl rfl x42 (fun w_ hS => E.r_pick_t rfl h2 rfl) rfl ?_
          refine E.DW_take 19 (v := .bool true) rfl (by kernel_rfl) (by kernel_rfl) (by kernel_rfl) (listed' := #[true, true, true, true, true, true, true, true, true, true, true, true, true, true, true, true, true, true, true, true]) rfl rfl x42 (fun w_ hS => E.r_assign rfl) rfl ?_
          refine E.DW_done (by kernel_rfl) ?_
          refine E.nx_normal ?_
          refine ⟨_, e0_r33, e4_r33, e5_r33, e6_r33, e7_r33, e8_r33, rfl, e24_r33, e25_r33, rfl, rfl, rfl, x42, by simp; omega⟩
        · skip
          have h2' := of_decide_eq_false h2
          refine E.DW_takeg 8 (v := .pointer (some ⟨b, 0, none⟩)) rfl (by kernel_rfl) (by kernel_rfl) (by kernel_rfl) (listed' := #[true, true, true, true, true, true, true, true, true, false, false, false, false, false, false, false, false, false, false, false]) rfl rfl rfl rfl h2 x42 (fun w_ hS => E.r_move e0_r33) rfl ?_
          refine E.DW_takeg 9 (v := .pointer (some ⟨b, 0, none⟩)) rfl (by kernel_rfl) (by kernel_rfl) (by kernel_rfl) (listed' := #[true, true, true, true, true, true, true, true, true, true, false, false, false, false, false, false, false, false, false, false]) rfl rfl rfl rfl h2 x42 (fun w_ hS => E.r_nil rfl) rfl ?_
          refine E.DW_takeg 10 (v := .pointer (some ⟨b, 0, none⟩)) rfl (by kernel_rfl) (by kernel_rfl) (by kernel_rfl) (listed' := #[true, true, true, true, true, true, true, true, true, true, true, false, false, false, false, false, false, false, false, false]) rfl rfl rfl rfl h2 x42 (fun w_ hS => E.r_field rfl fo143_0) rfl ?_
          refine E.DW_takeg 11 (v := v.val) rfl (by kernel_rfl) (by kernel_rfl) (by kernel_rfl) (listed' := #[true, true, true, true, true, true, true, true, true, true, true, true, false, false, false, false, false, false, false, false]) rfl rfl rfl rfl h2 x42 (fun w_ hS => E.r_load rfl (E.ld1 Try.underlying22 rfl ((E.ext_range hb (E.Ext.trans x35 hS)) 0 _ rfl))) rfl ?_
          refine E.DW_takeg 12 (v := .int .i64 ((i : Nat) : Int)) rfl (by kernel_rfl) (by kernel_rfl) (by kernel_rfl) (listed' := #[true, true, true, true, true, true, true, true, true, true, true, true, true, false, false, false, false, false, false, false]) rfl rfl rfl rfl h2 x42 (fun w_ hS => E.r_move rfl) rfl ?_
          obtain ⟨y48, hy49⟩ : ∃ y, ps[i]? = some y := ⟨_, List.getElem?_eq_getElem (by first | omega | (have := hv.1; omega))⟩
          refine E.DW_takeg 13 (v := .pointer (some ⟨v.b, v.o + i * 16, none⟩)) rfl (by kernel_rfl) (by kernel_rfl) (by kernel_rfl) (listed' := #[true, true, true, true, true, true, true, true, true, true, true, true, true, true, false, false, false, false, false, false]) rfl rfl rfl rfl h2 x42 (fun w_ hS => E.r_indexSl rfl rfl Try.underlying22 ts24 hv hy49) rfl ?_
          refine E.DW_takeg 14 (v := .agg (kl y48).toArray) rfl (by kernel_rfl) (by kernel_rfl) (by kernel_rfl) (listed' := #[true, true, true, true, true, true, true, true, true, true, true, true, true, true, true, false, false, false, false, false]) rfl rfl rfl rfl h2 x42 (fun w_ hS => E.r_load rfl (E.ldk Try.underlying24 rfl (ts24.trans (congrArg some (kl_len _).symm)) (hv.at_ (E.Ext.trans x35 hS) hy49))) rfl ?_
          refine E.DW_takeg 15 (v := .agg (kl lo).toArray) rfl (by kernel_rfl) (by kernel_rfl) (by kernel_rfl) (listed' := #[true, true, true, true, true, true, true, true, true, true, true, true, true, true, true, true, false, false, false, false]) rfl rfl rfl rfl h2 x42 (fun w_ hS => E.r_load e4_r33 (E.ldk Try.underlying24 rfl (ts24.trans (congrArg some (kl_len _).symm)) (E.ext_range hr6 (E.Ext.trans x36 hS)))) rfl ?_
          refine E.DW_call 16 rfl (by kernel_rfl) (listed' := #[true, true, true, true, true, true, true, true, true, true, true, true, true, true, true, true, true, false, false, false]) rfl (.inr ⟨rfl, rfl, rfl, h2⟩) (E.r_call Try.func96 rfl rfl (E.args2 rfl rfl)) rfl ((key_Cmp_ok w41 y48 lo).mono ?_)
          rintro _ w50 ⟨rfl, x51⟩
          have x52 := E.Ext.trans x43 x51
          have x53 := E.Ext.trans x44 x51
          have x54 := E.Ext.trans x45 x51
          have x55 := E.Ext.trans x46 x51
          have x56 := E.Ext.trans x47 x51
          have x57 := E.Ext.trans x42 x51
          refine ⟨_, rfl, x57, ?_⟩
          refine E.DW_takeg 17 (v := .bool (decide (0 < (kcmp y48 lo)))) rfl (by kernel_rfl) (by kernel_rfl) (by kernel_rfl) (listed' := #[true, true, true, true, true, true, true, true, true, true, true, true, true, true, true, true, true, true, false, false]) rfl rfl rfl rfl h2 x57 (fun w_ hS => E.r_gtr rfl rfl) rfl ?_
          refine E.DW_take 18 (v := .bool (decide (0 < (kcmp y48 lo)))) rfl (by kernel_rfl) (by kernel_rfl) (by kernel_rfl) (listed' := #[true, true, true, true, true, true, true, true, true, true, true, true, true, true, true, true, true, true, true, false]) rfl rfl x57 (fun w_ hS => E.r_pick_f rfl h2 rfl) rfl ?_
          refine E.DW_take 19 (v := .bool (decide (0 < (kcmp y48 lo)))) rfl (by kernel_rfl) (by kernel_rfl) (by kernel_rfl) (listed' := #[true, true, true, true, true, true, true, true, true, true, true, true, true, true, true, true, true, true, true, true]) rfl rfl x57 (fun w_ hS => E.r_assign rfl) rfl ?_
          refine E.DW_done (by kernel_rfl) ?_
          refine E.nx_normal ?_
          refine ⟨_, e0_r33, e4_r33, e5_r33, e6_r33, e7_r33, e8_r33, rfl, e24_r33, e25_r33, rfl, rfl, rfl, x57, ?_⟩
          rw [decide_eq_true_iff]
          constructor
          · intro h; exact .inr ⟨_, hy49, h⟩
          · rintro (h | ⟨p, hp, h⟩)
            · omega
            · rw [hy49] at hp; cases hp; exact h
      rintro r40 w39 ⟨c, e0_r40, e4_r40, e5_r40, e6_r40, e7_r40, e8_r40, e9_r40, e24_r40, e25_r40, e26_r40, e27_r40, e10_r40, x58, hinv_r40⟩
      have hinv := hinv_r40
      have x59 := E.Ext.trans x35 x58
      have x60 := E.Ext.trans x36 x58
      have x61 := E.Ext.trans x37 x58
      have x62 := E.Ext.trans x38 x58
      have x63 := E.Ext.trans x34 x58
      have hup := hinv
      refine E.RL_cut (fun ρ_ w_ => ∃ c' : Bool, ρ_ 0 = .pointer (some ⟨b, 0, none⟩) ∧ ρ_ 4 = .pointer (some ⟨b1, 0, none⟩) ∧ ρ_ 5 = .pointer (some ⟨b9, 0, none⟩) ∧ ρ_ 6 = .slice none 0 0 ∧ ρ_ 7 = .bool (decide (hi = zeroK)) ∧ ρ_ 8 = r.val ∧ ρ_ 9 = .int .i64 ((i : Nat) : Int) ∧ ρ_ 10 = .bool c ∧ ρ_ 24 = .int .i64 ((ps.length + 1 : Nat) : Int) ∧ ρ_ 25 = .int .i64 ((i : Nat) : Int) ∧ ρ_ 26 = .bool (decide (((i : Nat) : Int) < ((ps.length + 1 : Nat) : Int))) ∧ ρ_ 27 = .int .i64 ((i : Nat) : Int) ∧ ρ_ 11 = .bool c' ∧ E.Ext w39 w_ ∧ (c' = true ↔ (i = 0 ∨ hi = zeroK ∨ ∃ q, ps[i - 1]? = some q ∧ kcmp q hi < 0))) ?_ ?_
      · skip
        refine E.RL_draw (fun w_ => E.Ext w39 w_) (by kernel_rfl) (fuel := 19) (listed := #[false, false, false, false, false, false, false, false, false, false, false, false, false, false, false, false, false, false, false]) rfl rfl ?_
        obtain ⟨w66, x67e⟩ : ∃ y, y = World.drew w39 := ⟨_, rfl⟩
        rw [← x67e]
        have x67 : E.Ext w39 w66 := by rw [x67e]; exact E.Ext.drew _
        clear x67e
        have x68 := E.Ext.trans x59 x67
        have x69 := E.Ext.trans x60 x67
        have x70 := E.Ext.trans x61 x67
        have x71 := E.Ext.trans x62 x67
        have x72 := E.Ext.trans x63 x67
        have x73 := E.Ext.trans x58 x67
        refine E.DW_take 0 (v := .int .i64 ((i : Nat) : Int)) rfl (by kernel_rfl) (by kernel_rfl) (by kernel_rfl) (listed' := #[true, false, false, false, false, false, false, false, false, false, false, false, false, false, false, false, false, false, false]) rfl rfl x67 (fun w_ hS => E.r_move e9_r40) rfl ?_
        refine E.DW_take 1 (v := .bool (decide (((i : Nat) : Int) = 0))) rfl (by kernel_rfl) (by kernel_rfl) (by kernel_rfl) (listed' := #[true, true, false, false, false, false, false, false, false, false, false, false, false, false, false, false, false, false, false]) rfl rfl x67 (fun w_ hS => E.r_eql rfl rfl) rfl ?_
        refine E.DW_take 2 (v := .bool (decide (((i : Nat) : Int) = 0))) rfl (by kernel_rfl) (by kernel_rfl) (by kernel_rfl) (listed' := #[true, true, true, false, false, false, false, false, false, false, false, false, false, false, false, false, false, false, false]) rfl rfl x67 (fun w_ hS => E.r_move rfl) rfl ?_
        rcases E.bool_cases (decide (((i : Nat) : Int) = 0)) with h2 | h2
        · skip
          have h2' := of_decide_eq_true h2
          refine E.DW_no 3 rfl (by kernel_rfl) (by kernel_rfl) (by kernel_rfl) (listed' := #[true, true, true, true, false, false, false, false, false, false, false, false, false, false, false, false, false, false, false]) rfl rfl rfl rfl h2 x67 rfl ?_
          refine E.DW_take 4 (v := .bool true) rfl (by kernel_rfl) (by kernel_rfl) (by kernel_rfl) (listed' := #[true, true, true, true, true, false, false, false, false, false, false, false, false, false, false, false, false, false, false]) rfl rfl x67 (fun w_ hS => E.r_pick_t rfl h2 rfl) rfl ?_
          refine E.DW_take 5 (v := .bool true) rfl (by kernel_rfl) (by kernel_rfl) (by kernel_rfl) (listed' := #[true, true, true, true, true, true, false, false, false, false, false, false, false, false, false, false, false, false, false]) rfl rfl x67 (fun w_ hS => E.r_move rfl) rfl ?_
          refine E.DW_no 6 rfl (by kernel_rfl) (by kernel_rfl) (by kernel_rfl) (listed' := #[true, true, true, true, true, true, true, false, false, false, false, false, false, false, false, false, false, false, false]) rfl rfl rfl rfl rfl x67 rfl ?_
          refine E.DW_no 7 rfl (by kernel_rfl) (by kernel_rfl) (by kernel_rfl) (listed' := #[true, true, true, true, true, true, true, true, false, false, false, false, false, false, false, false, false, false, false]) rfl rfl rfl rfl rfl x67 rfl ?_
          refine E.DW_no 8 rfl (by kernel_rfl) (by kernel_rfl) (by kernel_rfl) (listed' := #[true, true, true, true, true, true, true, true, true, false, false, false, false, false, false, false, false, false, false]) rfl rfl rfl rfl rfl x67 rfl ?_
          refine E.DW_no 9 rfl (by kernel_rfl) (by kernel_rfl) (by kernel_rfl) (listed' := #[true, true, true, true, true, true, true, true, true, true, false, false, false, false, false, false, false, false, false]) rfl rfl rfl rfl rfl x67 rfl ?_
          refine E.DW_no 10 rfl (by kernel_rfl) (by kernel_rfl) (by kernel_rfl) (listed' := #[true, true, true, true, true, true, true, true, true, true, true, false, false, false, false, false, false, false, false]) rfl rfl rfl rfl rfl x67 rfl ?_
          refine E.DW_no 11 rfl (by kernel_rfl) (by kernel_rfl) (by kernel_rfl) (listed' := #[true, true, true, true, true, true, true, true, true, true, true, true, false, false, false, false, false, false, false]) rfl rfl rfl rfl rfl x67 rfl ?_
          refine E.DW_no 12 rfl (by kernel_rfl) (by kernel_rfl) (by kernel_rfl) (listed' := #[true, true, true, true, true, true, true, true, true, true, true, true, true, false, false, false, false, false, false]) rfl rfl rfl rfl rfl x67 rfl ?_
          refine E.DW_no 13 rfl (by kernel_rfl) (by kernel_rfl) (by kernel_rfl) (listed' := #[true, true, true, true, true, true, true, true, true, true, true, true, true, true, false, false, false, false, false]) rfl rfl rfl rfl rfl x67 rfl ?_
          refine E.DW_no 14 rfl (by kernel_rfl) (by kernel_rfl) (by kernel_rfl) (listed' := #[true, true, true, true, true, true, true, true, true, true, true, true, true, true, true, false, false, false, false]) rfl rfl rfl rfl rfl x67 rfl ?_
          refine E.DW_no 15 rfl (by kernel_rfl) (by kernel_rfl) (by kernel_rfl) (listed' := #[true, true, true, true, true, true, true, true, true, true, true, true, true, true, true, true, false, false, false]) rfl rfl rfl rfl rfl x67 rfl ?_
          refine E.DW_no 16 rfl (by kernel_rfl) (by kernel_rfl) (by kernel_rfl) (listed' := #[true, true, true, true, true, true, true, true, true, true, true, true, true, true, true, true, true, false, false]) rfl rfl rfl rfl rfl x67 rfl ?_
          refine E.DW_take 17 (v := .bool true) rfl (by kernel_rfl) (by kernel_rfl) (by kernel_rfl) (listed' := #[true, true, true, true, true, true, true, true, true, true, true, true, true, true, true, true, true, true, false]) rfl rfl x67 (fun w_ hS => E.r_pick_t rfl rfl rfl) rfl ?_
          refine E.DW_take 18 (v := .bool true) rfl (by kernel_rfl) (by kernel_rfl) (by kernel_rfl) (listed' := #[true, true, true, true, true, true, true, true, true, true, true, true, true, true, true, true, true, true, true]) rfl rfl x67 (fun w_ hS => E.r_assign rfl) rfl ?_
          refine E.DW_done (by kernel_rfl) ?_
          refine E.nx_normal ?_
          refine ⟨_, e0_r40, e4_r40, e5_r40, e6_r40, e7_r40, e8_r40, e9_r40, e10_r40, e24_r40, e25_r40, e26_r40, e27_r40, rfl, x67, by simp; omega⟩
        · skip
          have h2' := of_decide_eq_false h2
          refine E.DW_takeg 3 (v := .bool (decide (hi = zeroK))) rfl (by kernel_rfl) (by kernel_rfl) (by kernel_rfl) (listed' := #[true, true, true, true, false, false, false, false, false, false, false, false, false, false, false, false, false, false, false]) rfl rfl rfl rfl h2 x67 (fun w_ hS => E.r_move e7_r40) rfl ?_
          refine E.DW_take 4 (v := .bool (decide (hi = zeroK))) rfl (by kernel_rfl) (by kernel_rfl) (by kernel_rfl) (listed' := #[true, true, true, true, true, false, false, false, false, false, false, false, false, false, false, false, false, false, false]) rfl rfl x67 (fun w_ hS => E.r_pick_f rfl h2 rfl) rfl ?_
          refine E.DW_take 5 (v := .bool (decide (hi = zeroK))) rfl (by kernel_rfl) (by kernel_rfl) (by kernel_rfl) (listed' := #[true, true, true, true, true, true, false, false, false, false, false, false, false, false, false, false, false, false, false]) rfl rfl x67 (fun w_ hS => E.r_move rfl) rfl ?_
          rcases E.bool_cases (decide (hi = zeroK)) with h3 | h3
          · skip
            have h3' := of_decide_eq_true h3
            have h3' : hi = zeroK := by simpa using h3
            refine E.DW_no 6 rfl (by kernel_rfl) (by kernel_rfl) (by kernel_rfl) (listed' := #[true, true, true, true, true, true, true, false, false, false, false, false, false, false, false, false, false, false, false]) rfl rfl rfl rfl h3 x67 rfl ?_
            refine E.DW_no 7 rfl (by kernel_rfl) (by kernel_rfl) (by kernel_rfl) (listed' := #[true, true, true, true, true, true, true, true, false, false, false, false, false, false, false, false, false, false, false]) rfl rfl rfl rfl h3 x67 rfl ?_
            refine E.DW_no 8 rfl (by kernel_rfl) (by kernel_rfl) (by kernel_rfl) (listed' := #[true, true, true, true, true, true, true, true, true, false, false, false, false, false, false, false, false, false, false]) rfl rfl rfl rfl h3 x67 rfl ?_
            refine E.DW_no 9 rfl (by kernel_rfl) (by kernel_rfl) (by kernel_rfl) (listed' := #[true, true, true, true, true, true, true, true, true, true, false, false, false, false, false, false, false, false, false]) rfl rfl rfl rfl h3 x67 rfl ?_
            refine E.DW_no 10 rfl (by kernel_rfl) (by kernel_rfl) (by kernel_rfl) (listed' := #[true, true, true, true, true, true, true, true, true, true, true, false, false, false, false, false, false, false, false]) rfl rfl rfl rfl h3 x67 rfl ?_
            refine E.DW_no 11 rfl (by kernel_rfl) (by kernel_rfl) (by kernel_rfl) (listed' := #[true, true, true, true, true, true, true, true, true, true, true, true, false, false, false, false, false, false, false]) rfl rfl rfl rfl h3 x67 rfl ?_
            refine E.DW_no 12 rfl (by kernel_rfl) (by kernel_rfl) (by kernel_rfl) (listed' := #[true, true, true, true, true, true, true, true, true, true, true, true, true, false, false, false, false, false, false]) rfl rfl rfl rfl h3 x67 rfl ?_
            refine E.DW_no 13 rfl (by kernel_rfl) (by kernel_rfl) (by kernel_rfl) (listed' := #[true, true, true, true, true, true, true, true, true, true, true, true, true, true, false, false, false, false, false]) rfl rfl rfl rfl h3 x67 rfl ?_
            refine E.DW_no 14 rfl (by kernel_rfl) (by kernel_rfl) (by kernel_rfl) (listed' := #[true, true, true, true, true, true, true, true, true, true, true, true, true, true, true, false, false, false, false]) rfl rfl rfl rfl h3 x67 rfl ?_
            refine E.DW_no 15 rfl (by kernel_rfl) (by kernel_rfl) (by kernel_rfl) (listed' := #[true, true, true, true, true, true, true, true, true, true, true, true, true, true, true, true, false, false, false]) rfl rfl rfl rfl h3 x67 rfl ?_
            refine E.DW_no 16 rfl (by kernel_rfl) (by kernel_rfl) (by kernel_rfl) (listed' := #[true, true, true, true, true, true, true, true, true, true, true, true, true, true, true, true, true, false, false]) rfl rfl rfl rfl h3 x67 rfl ?_
            refine E.DW_take 17 (v := .bool true) rfl (by kernel_rfl) (by kernel_rfl) (by kernel_rfl) (listed' := #[true, true, true, true, true, true, true, true, true, true, true, true, true, true, true, true, true, true, false]) rfl rfl x67 (fun w_ hS => E.r_pick_t rfl h3 rfl) rfl ?_
            refine E.DW_take 18 (v := .bool true) rfl (by kernel_rfl) (by kernel_rfl) (by kernel_rfl) (listed' := #[true, true, true, true, true, true, true, true, true, true, true, true, true, true, true, true, true, true, true]) rfl rfl x67 (fun w_ hS => E.r_assign rfl) rfl ?_
            refine E.DW_done (by kernel_rfl) ?_
            refine E.nx_normal ?_
            refine ⟨_, e0_r40, e4_r40, e5_r40, e6_r40, e7_r40, e8_r40, e9_r40, e10_r40, e24_r40, e25_r40, e26_r40, e27_r40, rfl, x67, by simp [h3']⟩
          · skip
            have h3' := of_decide_eq_false h3
            have h3' : hi ≠ zeroK := by simpa using h3
            refine E.DW_takeg 6 (v := .pointer (some ⟨b, 0, none⟩)) rfl (by kernel_rfl) (by kernel_rfl) (by kernel_rfl) (listed' := #[true, true, true, true, true, true, true, false, false, false, false, false, false, false, false, false, false, false, false]) rfl rfl rfl rfl h3 x67 (fun w_ hS => E.r_move e0_r40) rfl ?_
            refine E.DW_takeg 7 (v := .pointer (some ⟨b, 0, none⟩)) rfl (by kernel_rfl) (by kernel_rfl) (by kernel_rfl) (listed' := #[true, true, true, true, true, true, true, true, false, false, false, false, false, false, false, false, false, false, false]) rfl rfl rfl rfl h3 x67 (fun w_ hS => E.r_nil rfl) rfl ?_
            refine E.DW_takeg 8 (v := .pointer (some ⟨b, 0, none⟩)) rfl (by kernel_rfl) (by kernel_rfl) (by kernel_rfl) (listed' := #[true, true, true, true, true, true, true, true, true, false, false, false, false, false, false, false, false, false, false]) rfl rfl rfl rfl h3 x67 (fun w_ hS => E.r_field rfl fo143_0) rfl ?_
            refine E.DW_takeg 9 (v := v.val) rfl (by kernel_rfl) (by kernel_rfl) (by kernel_rfl) (listed' := #[true, true, true, true, true, true, true, true, true, true, false, false, false, false, false, false, false, false, false]) rfl rfl rfl rfl h3 x67 (fun w_ hS => E.r_load rfl (E.ld1 Try.underlying22 rfl ((E.ext_range hb (E.Ext.trans x59 hS)) 0 _ rfl))) rfl ?_
            refine E.DW_takeg 10 (v := .int .i64 ((i : Nat) : Int)) rfl (by kernel_rfl) (by kernel_rfl) (by kernel_rfl) (listed' := #[true, true, true, true, true, true, true, true, true, true, true, false, false, false, false, false, false, false, false]) rfl rfl rfl rfl h3 x67 (fun w_ hS => E.r_move e9_r40) rfl ?_
            refine E.DW_takeg 11 (v := .int .i64 ((i - 1 : Nat) : Int)) rfl (by kernel_rfl) (by kernel_rfl) (by kernel_rfl) (listed' := #[true, true, true, true, true, true, true, true, true, true, true, true, false, false, false, false, false, false, false]) rfl rfl rfl rfl h3 x67 (fun w_ hS => E.r_sub rfl rfl (by rw [E.wrap_i64 (by omega) (by omega)]; omega)) rfl ?_
            obtain ⟨y74, hy75⟩ : ∃ y, ps[i - 1]? = some y := ⟨_, List.getElem?_eq_getElem (by first | omega | (have := hv.1; omega))⟩
            refine E.DW_takeg 12 (v := .pointer (some ⟨v.b, v.o + (i - 1) * 16, none⟩)) rfl (by kernel_rfl) (by kernel_rfl) (by kernel_rfl) (listed' := #[true, true, true, true, true, true, true, true, true, true, true, true, true, false, false, false, false, false, false]) rfl rfl rfl rfl h3 x67 (fun w_ hS => E.r_indexSl rfl rfl Try.underlying22 ts24 hv hy75) rfl ?_
            refine E.DW_takeg 13 (v := .agg (kl y74).toArray) rfl (by kernel_rfl) (by kernel_rfl) (by kernel_rfl) (listed' := #[true, true, true, true, true, true, true, true, true, true, true, true, true, true, false, false, false, false, false]) rfl rfl rfl rfl h3 x67 (fun w_ hS => E.r_load rfl (E.ldk Try.underlying24 rfl (ts24.trans (congrArg some (kl_len _).symm)) (hv.at_ (E.Ext.trans x59 hS) hy75))) rfl ?_
            refine E.DW_takeg 14 (v := .agg (kl hi).toArray) rfl (by kernel_rfl) (by kernel_rfl) (by kernel_rfl) (listed' := #[true, true, true, true, true, true, true, true, true, true, true, true, true, true, true, false, false, false, false]) rfl rfl rfl rfl h3 x67 (fun w_ hS => E.r_load e5_r40 (E.ldk Try.underlying24 rfl (ts24.trans (congrArg some (kl_len _).symm)) (E.ext_range hr14 (E.Ext.trans x61 hS)))) rfl ?_
            refine E.DW_call 15 rfl (by kernel_rfl) (listed' := #[true, true, true, true, true, true, true, true, true, true, true, true, true, true, true, true, false, false, false]) rfl (.inr ⟨rfl, rfl, rfl, h3⟩) (E.r_call Try.func96 rfl rfl (E.args2 rfl rfl)) rfl ((key_Cmp_ok w66 y74 hi).mono ?_)
            rintro _ w76 ⟨rfl, x77⟩
            have x78 := E.Ext.trans x68 x77
            have x79 := E.Ext.trans x69 x77
            have x80 := E.Ext.trans x70 x77
            have x81 := E.Ext.trans x71 x77
            have x82 := E.Ext.trans x72 x77
            have x83 := E.Ext.trans x73 x77
            have x84 := E.Ext.trans x67 x77
            refine ⟨_, rfl, x84, ?_⟩
            refine E.DW_takeg 16 (v := .bool (decide ((kcmp y74 hi) < 0))) rfl (by kernel_rfl) (by kernel_rfl) (by kernel_rfl) (listed' := #[true, true, true, true, true, true, true, true, true, true, true, true, true, true, true, true, true, false, false]) rfl rfl rfl rfl h3 x84 (fun w_ hS => E.r_lss rfl rfl) rfl ?_
            refine E.DW_take 17 (v := .bool (decide ((kcmp y74 hi) < 0))) rfl (by kernel_rfl) (by kernel_rfl) (by kernel_rfl) (listed' := #[true, true, true, true, true, true, true, true, true, true, true, true, true, true, true, true, true, true, false]) rfl rfl x84 (fun w_ hS => E.r_pick_f rfl h3 rfl) rfl ?_
            refine E.DW_take 18 (v := .bool (decide ((kcmp y74 hi) < 0))) rfl (by kernel_rfl) (by kernel_rfl) (by kernel_rfl) (listed' := #[true, true, true, true, true, true, true, true, true, true, true, true, true, true, true, true, true, true, true]) rfl rfl x84 (fun w_ hS => E.r_assign rfl) rfl ?_
            refine E.DW_done (by kernel_rfl) ?_
            refine E.nx_normal ?_
            refine ⟨_, e0_r40, e4_r40, e5_r40, e6_r40, e7_r40, e8_r40, e9_r40, e10_r40, e24_r40, e25_r40, e26_r40, e27_r40, rfl, x84, ?_⟩
            rw [decide_eq_true_iff]
            constructor
            · intro h; exact .inr (.inr ⟨_, hy75, h⟩)
            · rintro (h | h | ⟨p, hp, h⟩)
              · omega
              · exact absurd h h3'
              · rw [hy75] at hp; cases hp; exact h
      rintro r65 w64 ⟨c', e0_r65, e4_r65, e5_r65, e6_r65, e7_r65, e8_r65, e9_r65, e10_r65, e24_r65, e25_r65, e26_r65, e27_r65, e11_r65, x85, hinv_r65⟩
      have hinv := hinv_r65
      have x86 := E.Ext.trans x59 x85
      have x87 := E.Ext.trans x60 x85
      have x88 := E.Ext.trans x61 x85
      have x89 := E.Ext.trans x62 x85
      have x90 := E.Ext.trans x63 x85
      have x91 := E.Ext.trans x58 x85
      have hdn := hinv
      refine E.RL_seq ?_
      refine E.RL_region ?_
      refine E.OW_val (v := .bool c) rfl (E.r_move e10_r65) rfl ?_
      refine E.OW_val (v := .bool c) rfl (E.r_move rfl) rfl ?_
      rcases E.bool_cases c with h2 | h2
      · skip
        refine E.OW_yes rfl rfl rfl h2 ?_
        refine E.OW_val (v := .bool c') rfl (E.r_move e11_r65) rfl ?_
        refine E.OW_val (v := .bool c') rfl (E.r_pick_t rfl h2 rfl) rfl ?_
        refine E.OW_nil ?_
        refine E.nx_normal ?_
        refine E.RL_cond rfl (fun h3 => ?_) (fun h3 => ?_)
        · skip
          refine E.RL_region ?_
          refine E.OW_val (v := r.val) rfl (E.r_move e8_r65) rfl ?_
          refine E.OW_val (v := .int .i64 ((i : Nat) : Int)) rfl (E.r_move e9_r65) rfl ?_
          refine E.OW_lit1 (enc := il) (y := ((i : Nat) : Int)) rfl rfl Try.underlying42 el3 il_len (by omega) rfl (fun v92 w93 x94 ho95 => ?_)
          have x96 := E.Ext.trans x86 x94
          have x97 := E.Ext.trans x87 x94
          have x98 := E.Ext.trans x88 x94
          have x99 := E.Ext.trans x89 x94
          have x100 := E.Ext.trans x90 x94
          have x101 := E.Ext.trans x91 x94
          have x102 := E.Ext.trans x85 x94
          refine E.OW_append (base := w27.heap.size) (enc := il) (v := r) (u := v92) (l := (cov ps lo hi i)) (m := ([((i : Nat) : Int)])) rfl rfl Try.underlying42 el3 il_len (by omega) il_one (E.Own.ext ho x101) ((E.Own.rd ho95 il_len).ext (E.Ext.refl _)) (by first | omega | (simp only [List.length_cons, List.length_nil, List.length_append, List.length_replicate]; omega)) x100.size rfl (fun v103 w104 ho105 hg106 _ => ?_)
          have x107 := E.ext_grown x96 hg106 (fun k_ hk_ => Nat.le_trans (x29.size) (E.Own.above (E.Own.ext ho x101) k_ hk_))
          have x108 := E.ext_grown x97 hg106 (fun k_ hk_ => Nat.le_trans (x30.size) (E.Own.above (E.Own.ext ho x101) k_ hk_))
          have x109 := E.ext_grown x98 hg106 (fun k_ hk_ => Nat.le_trans (x31.size) (E.Own.above (E.Own.ext ho x101) k_ hk_))
          have x110 := E.ext_grown x99 hg106 (fun k_ hk_ => Nat.le_trans (x28.size) (E.Own.above (E.Own.ext ho x101) k_ hk_))
          have x111 := E.ext_grown x100 hg106 (fun k_ hk_ => Nat.le_trans (Nat.le_refl _) (E.Own.above (E.Own.ext ho x101) k_ hk_))
          refine E.OW_val (v := v103.val) rfl (E.r_assign rfl) rfl ?_
          refine E.OW_nil ?_
          refine E.blk_normal ?_
          refine E.nx_normal ?_
          refine E.RL_region ?_
          refine E.OW_val (v := .int .i64 ((i + 1 : Nat) : Int)) rfl (E.r_add e25_r65 rfl (by rw [E.wrap_i64 (by omega) (by omega)]; omega)) rfl ?_
          refine E.OW_val (v := .int .i64 ((i + 1 : Nat) : Int)) rfl (E.r_move rfl) rfl ?_
          refine E.OW_nil ?_
          refine E.nx_normal ?_
          refine ⟨_, (i + 1, v103), ?_, rfl, e0_r65, e4_r65, e5_r65, e6_r65, e7_r65, e24_r65, rfl, rfl, x111, ⟨by omega, ?_⟩⟩
          omega
          rw [cov_succ, if_pos ⟨hup.1 h2, hdn.1 h3, hy⟩]
          exact (E.Own.ext ho105 (E.Ext.refl _))
        · skip
          refine E.RL_skip ?_
          refine E.blk_normal ?_
          refine E.nx_normal ?_
          refine E.RL_region ?_
          refine E.OW_val (v := .int .i64 ((i + 1 : Nat) : Int)) rfl (E.r_add e25_r65 rfl (by rw [E.wrap_i64 (by omega) (by omega)]; omega)) rfl ?_
          refine E.OW_val (v := .int .i64 ((i + 1 : Nat) : Int)) rfl (E.r_move rfl) rfl ?_
          refine E.OW_nil ?_
          refine E.nx_normal ?_
          refine ⟨_, (i + 1, r), ?_, rfl, e0_r65, e4_r65, e5_r65, e6_r65, e7_r65, e24_r65, rfl, e8_r65, x90, ⟨by omega, ?_⟩⟩
          omega
          rw [cov_succ, if_neg (fun hc => by rw [hdn.2 hc.2.1] at h3; cases h3), List.append_nil]
          exact (E.Own.ext ho x91)
      · skip
        refine E.OW_no rfl rfl rfl h2 rfl ?_
        refine E.OW_val (v := .bool false) rfl (E.r_pick_f rfl h2 rfl) rfl ?_
        refine E.OW_nil ?_
        refine E.nx_normal ?_
        refine E.RL_false rfl rfl ?_
        refine E.RL_skip ?_
        refine E.blk_normal ?_
        refine E.nx_normal ?_
        refine E.RL_region ?_
        refine E.OW_val (v := .int .i64 ((i + 1 : Nat) : Int)) rfl (E.r_add e25_r65 rfl (by rw [E.wrap_i64 (by omega) (by omega)]; omega)) rfl ?_
        refine E.OW_val (v := .int .i64 ((i + 1 : Nat) : Int)) rfl (E.r_move rfl) rfl ?_
        refine E.OW_nil ?_
        refine E.nx_normal ?_
        refine ⟨_, (i + 1, r), ?_, rfl, e0_r65, e4_r65, e5_r65, e6_r65, e7_r65, e24_r65, rfl, e8_r65, x90, ⟨by omega, ?_⟩⟩
        omega
        rw [cov_succ, if_neg (fun hc => by rw [hup.2 hc.1] at h2; cases h2), List.append_nil]
        exact (E.Own.ext ho x91)
    · skip
      have h1' := of_decide_eq_false h1
      refine E.RL_exit ?_
      refine E.nx_exit ?_
      refine E.nx_exit ?_
      refine E.blk_eq ?_
      refine E.nx_normal ?_
      refine E.RL_seq ?_
      refine E.RL_region ?_
      refine E.OW_val (v := r.val) rfl (E.r_move e8_r33) rfl ?_
      refine E.OW_val (v := r.val) rfl (E.r_assign rfl) rfl ?_
      refine E.OW_nil ?_
      refine E.nx_normal ?_
      refine E.RL_ret ?_
      refine E.post_ret (E.res1 rfl) ?_
      refine ⟨r, rfl, x35, ?_⟩
      have e : ps.length + 1 = i := by omega
      rw [e]
      exact (E.Own.ext (E.Own.mono ho x29.size) (E.Ext.refl _))

theorem rroute_Cover_ok (w : World) (b : Nat) (v : E.Sl) (ps : List Key) (lo hi : Key) (hb : w.rangeAt b 0 [v.val]) (hv : E.Rd w v 16 kl ps) (hl : ps.length ≤ 1000) :
    Calls Try.prog 28 #[.pointer (some ⟨b, 0, none⟩), kv lo, kv hi] w fun e w' => ∃ r : E.Sl, e = .returned r.val ∧ Ext w w' ∧ E.Own w.heap.size w' r 3 1 il (cov ps lo hi (ps.length + 1)) := by
  have hlen := hv.1
  refine E.calls_of_RL Try.func28 rfl Try.ntmps28 (Nat.le_of_ble_eq_true rfl) ?_
  refine E.RL_seq ?_
  refine E.RL_region ?_
  refine E.OW_box (v := .agg (kl lo).toArray) (cs := kl lo) rfl rfl rfl (fun b1 w2 hb3 x4 hz5 hr6 ht7 => ?_)
  have ht8 : World.there w2 b1 0 16 := by rw [kl_len] at ht7; exact ht7
  refine E.OW_box (v := .agg (kl hi).toArray) (cs := kl hi) rfl rfl rfl (fun b9 w10 hb11 x12 hz13 hr14 ht15 => ?_)
  have x16 := E.Ext.trans x4 x12
  have ht17 : World.there w10 b9 0 16 := by rw [kl_len] at ht15; exact ht15
  refine E.OW_val (v := .slice none 0 0) rfl (E.r_assign rfl) rfl ?_
  refine E.OW_nil ?_
  refine E.nx_normal ?_
  refine E.RL_seq ?_
  refine E.RL_region ?_
  refine E.OW_val (v := .agg (kl zeroK).toArray) rfl (E.r_build0 (z := .agg (kl zeroK).toArray) (fun _ => by kernel_rfl)) rfl ?_
  refine E.OW_alloc (z := .agg (kl zeroK).toArray) (cs := kl zeroK) (by kernel_rfl) rfl rfl (fun b18 w19 hb20 x21 hz22 hr23 ht24 => ?_)
  have x25 := E.Ext.trans x16 x21
  have x26 := E.Ext.trans x12 x21
  have ht27 : World.there w19 b18 0 16 := by rw [kl_len] at ht24; exact ht24
  refine E.OW_stk (cs := kl zeroK) rfl rfl rfl (ts24.trans (congrArg some (kl_len _).symm)) (kl_one _) (by rw [kl_len]; exact (E.ext_there ht27 (E.Ext.refl _))) rfl (fun w28 hs29 _ => ?_)
  have x30 := hs29.1 _ x25 (by first | omega | (have := x16.size; omega))
  have x31 := hs29.1 _ x26 (by first | omega | (have := x12.size; omega))
  have x32 := hs29.1 _ x21 (by first | omega | (have := (E.Ext.refl _).size; omega))
  have hr33 := hs29.2.2.1
  have ht34 := hs29.2.2.2.1 _ _ _ (E.ext_there ht27 (E.Ext.refl _))
  refine E.OW_nil ?_
  refine E.nx_normal ?_
  refine E.RL_seq ?_
  refine E.RL_region ?_
  refine E.OW_val (v := .slice none 0 0) rfl (E.r_assign rfl) rfl ?_
  refine E.OW_nil ?_
  refine E.nx_normal ?_
  refine E.RL_seq ?_
  refine E.RL_seq ?_
  refine E.RL_region ?_
  refine E.OW_val (v := .int .i64 0) rfl (E.r_assign rfl) rfl ?_
  refine E.OW_nil ?_
  refine E.nx_normal ?_
  refine E.RL_block ?_
  refine E.RL_loopg (fun m_ (g_ : Nat × E.Sl) ρ_ w_ => match g_ with | ⟨i, r⟩ => m_ = ps.length + 1 - i ∧ ρ_ 0 = .pointer (some ⟨b, 0, none⟩) ∧ ρ_ 4 = .pointer (some ⟨b1, 0, none⟩) ∧ ρ_ 5 = .pointer (some ⟨b9, 0, none⟩) ∧ ρ_ 6 = .slice none 0 0 ∧ ρ_ 7 = .pointer (some ⟨b18, 0, none⟩) ∧ ρ_ 9 = .int .i64 ((i : Nat) : Int) ∧ ρ_ 8 = r.val ∧ E.Ext w28 w_ ∧ i ≤ ps.length + 1 ∧ E.Own w28.heap.size w_ r 3 1 il (cov ps lo hi i)) _ ((0, E.Sl.nil)) ⟨rfl, rfl, rfl, rfl, rfl, rfl, rfl, rfl, (E.Ext.refl _), ⟨by omega, E.Own.nil _ _ _ _ _⟩⟩ ?_
  rintro _ (⟨i, r⟩) r36 w35 ⟨rfl, e0_r36, e4_r36, e5_r36, e6_r36, e7_r36, e9_r36, e8_r36, x37, hinv_r36⟩
  have hinv := hinv_r36
  have x38 := E.Ext.trans x30 x37
  have x39 := E.Ext.trans x31 x37
  have x40 := E.Ext.trans x32 x37
  obtain ⟨hi', ho⟩ := hinv
  have hcl := cov_le ps lo hi i
  refine E.RL_seq ?_
  refine E.RL_seq ?_
  refine E.RL_region ?_
  refine E.OW_val (v := .int .i64 ((i : Nat) : Int)) rfl (E.r_move e9_r36) rfl ?_
  refine E.OW_val (v := .pointer (some ⟨b, 0, none⟩)) rfl (E.r_move e0_r36) rfl ?_
  refine E.OW_val (v := .pointer (some ⟨b, 0, none⟩)) rfl (E.r_nil rfl) rfl ?_
  refine E.OW_val (v := .pointer (some ⟨b, 0, none⟩)) rfl (E.r_field rfl fo145_0) rfl ?_
  refine E.OW_val (v := v.val) rfl (E.r_load rfl (E.ld1 Try.underlying22 rfl ((E.ext_range hb x38) 0 _ rfl))) rfl ?_
  refine E.OW_val (v := .int .i64 ((v.len : Nat) : Int)) rfl (E.r_len Try.underlying22 rfl) rfl ?_
  refine E.OW_val (v := .bool (decide (((i : Nat) : Int) ≤ ((v.len : Nat) : Int)))) rfl (E.r_leq rfl rfl) rfl ?_
  refine E.OW_nil ?_
  refine E.nx_normal ?_
  refine E.RL_cond rfl (fun h1 => ?_) (fun h1 => ?_)
  · skip
    have h1' := of_decide_eq_true h1
    refine E.RL_skip ?_
    refine E.nx_normal ?_
    refine E.RL_seq ?_
    refine E.RL_block ?_
    refine E.RL_cut (fun ρ_ w_ => ∃ c : Bool, ρ_ 0 = .pointer (some ⟨b, 0, none⟩) ∧ ρ_ 4 = .pointer (some ⟨b1, 0, none⟩) ∧ ρ_ 5 = .pointer (some ⟨b9, 0, none⟩) ∧ ρ_ 6 = .slice none 0 0 ∧ ρ_ 7 = .pointer (some ⟨b18, 0, none⟩) ∧ ρ_ 8 = r.val ∧ ρ_ 9 = .int .i64 ((i : Nat) : Int) ∧ ρ_ 13 = .int .i64 ((i : Nat) : Int) ∧ ρ_ 14 = .pointer (some ⟨b, 0, none⟩) ∧ ρ_ 15 = .pointer (some ⟨b, 0, none⟩) ∧ ρ_ 16 = .pointer (some ⟨b, 0, none⟩) ∧ ρ_ 17 = v.val ∧ ρ_ 18 = .int .i64 ((v.len : Nat) : Int) ∧ ρ_ 19 = .bool (decide (((i : Nat) : Int) ≤ ((v.len : Nat) : Int))) ∧ ρ_ 10 = .bool c ∧ E.Ext w35 w_ ∧ (c = true ↔ (i = ps.length ∨ ∃ p, ps[i]? = some p ∧ 0 < kcmp p lo))) ?_ ?_
    · skip
      refine E.RL_draw (fun w_ => E.Ext w35 w_) (by kernel_rfl) (fuel := 20) (listed := #[false, false, false, false, false, false, false, false, false, false, false, false, false, false, false, false, false, false, false, false]) rfl rfl ?_
      obtain ⟨w43, x44e⟩ : ∃ y, y = World.drew w35 := ⟨_, rfl⟩
      rw [← x44e]
      have x44 : E.Ext w35 w43 := by rw [x44e]; exact E.Ext.drew _
      clear x44e
      have x45 := E.Ext.trans x38 x44
      have x46 := E.Ext.trans x39 x44
      have x47 := E.Ext.trans x40 x44
      have x48 := E.Ext.trans x37 x44
      refine E.DW_take 0 (v := .int .i64 ((i : Nat) : Int)) rfl (by kernel_rfl) (by kernel_rfl) (by kernel_rfl) (listed' := #[true, false, false, false, false, false, false, false, false, false, false, false, false, false, false, false, false, false, false, false]) rfl rfl x44 (fun w_ hS => E.r_move e9_r36) rfl ?_
      refine E.DW_take 1 (v := .pointer (some ⟨b, 0, none⟩)) rfl (by kernel_rfl) (by kernel_rfl) (by kernel_rfl) (listed' := #[true, true, false, false, false, false, false, false, false, false, false, false, false, false, false, false, false, false, false, false]) rfl rfl x44 (fun w_ hS => E.r_move e0_r36) rfl ?_
      refine E.DW_take 2 (v := .pointer (some ⟨b, 0, none⟩)) rfl (by kernel_rfl) (by kernel_rfl) (by kernel_rfl) (listed' := #[true, true, true, false, false, false, false, false, false, false, false, false, false, false, false, false, false, false, false, false]) rfl rfl x44 (fun w_ hS => E.r_nil rfl) rfl ?_
      refine E.DW_take 3 (v := .pointer (some ⟨b, 0, none⟩)) rfl (by kernel_rfl) (by kernel_rfl) (by kernel_rfl) (listed' := #[true, true, true, true, false, false, false, false, false, false, false, false, false, false, false, false, false, false, false, false]) rfl rfl x44 (fun w_ hS => E.r_field rfl fo145_0) rfl ?_
      refine E.DW_take 4 (v := v.val) rfl (by kernel_rfl) (by kernel_rfl) (by kernel_rfl) (listed' := #[true, true, true, true, true, false, false, false, false, false, false, false, false, false, false, false, false, false, false, false]) rfl rfl x44 (fun w_ hS => E.r_load rfl (E.ld1 Try.underlying22 rfl ((E.ext_range hb (E.Ext.trans x38 hS)) 0 _ rfl))) rfl ?_
      refine E.DW_take 5 (v := .int .i64 ((v.len : Nat) : Int)) rfl (by kernel_rfl) (by kernel_rfl) (by kernel_rfl) (listed' := #[true, true, true, true, true, true, false, false, false, false, false, false, false, false, false, false, false, false, false, false]) rfl rfl x44 (fun w_ hS => E.r_len Try.underlying22 rfl) rfl ?_
      refine E.DW_take 6 (v := .bool (decide (((i : Nat) : Int) = ((v.len : Nat) : Int)))) rfl (by kernel_rfl) (by kernel_rfl) (by kernel_rfl) (listed' := #[true, true, true, true, true, true, true, false, false, false, false, false, false, false, false, false, false, false, false, false]) rfl rfl x44 (fun w_ hS => E.r_eql rfl rfl) rfl ?_
      refine E.DW_take 7 (v := .bool (decide (((i : Nat) : Int) = ((v.len : Nat) : Int)))) rfl (by kernel_rfl) (by kernel_rfl) (by kernel_rfl) (listed' := #[true, true, true, true, true, true, true, true, false, false, false, false, false, false, false, false, false, false, false, false]) rfl rfl x44 (fun w_ hS => E.r_move rfl) rfl ?_
      rcases E.bool_cases (decide (((i : Nat) : Int) = ((v.len : Nat) : Int))) with h2 | h2
      · skip
        have h2' := of_decide_eq_true h2
        refine E.DW_no 8 rfl (by kernel_rfl) (by kernel_rfl) (by kernel_rfl) (listed' := #[true, true, true, true, true, true, true, true, true, false, false, false, false, false, false, false, false, false, false, false]) rfl rfl rfl rfl h2 x44 rfl ?_
        refine E.DW_no 9 rfl (by kernel_rfl) (by kernel_rfl) (by kernel_rfl) (listed' := #[true, true, true, true, true, true, true, true, true, true, false, false, false, false, false, false, false, false, false, false]) rfl rfl rfl rfl h2 x44 rfl ?_
        refine E.DW_no 10 rfl (by kernel_rfl) (by kernel_rfl) (by kernel_rfl) (listed' := #[true, true, true, true, true, true, true, true, true, true, true, false, false, false, false, false, false, false, false, false]) rfl rfl rfl rfl h2 x44 rfl ?_
        refine E.DW_no 11 rfl (by kernel_rfl) (by kernel_rfl) (by kernel_rfl) (listed' := #[true, true, true, true, true, true, true, true, true, true, true, true, false, false, false, false, false, false, false, false]) rfl rfl rfl rfl h2 x44 rfl ?_
        refine E.DW_no 12 rfl (by kernel_rfl) (by kernel_rfl) (by kernel_rfl) (listed' := #[true, true, true, true, true, true, true, true, true, true, true, true, true, false, false, false, false, false, false, false]) rfl rfl rfl rfl h2 x44 rfl ?_
        refine E.DW_no 13 rfl (by kernel_rfl) (by kernel_rfl) (by kernel_rfl) (listed' := #[true, true, true, true, true, true, true, true, true, true, true, true, true, true, false, false, false, false, false, false]) rfl rfl rfl rfl h2 x44 rfl ?_
        refine E.DW_no 14 rfl (by kernel_rfl) (by kernel_rfl) (by kernel_rfl) (listed' := #[true, true, true, true, true, true, true, true, true, true, true, true, true, true, true, false, false, false, false, false]) rfl rfl rfl rfl h2 x44 rfl ?_
        refine E.DW_no 15 rfl (by kernel_rfl) (by kernel_rfl) (by kernel_rfl) (listed' := #[true, true, true, true, true, true, true, true, true, true, true, true, true, true, true, true, false, false, false, false]) rfl rfl rfl rfl h2 x44 rfl ?_
        refine E.DW_no 16 rfl (by kernel_rfl) (by kernel_rfl) (by kernel_rfl) (listed' := #[true, true, true, true, true, true, true, true, true, true, true, true, true, true, true, true, true, false, false, false]) rfl rfl rfl rfl h2 x44 rfl ?_
        refine E.DW_no 17 rfl (by kernel_rfl) (by kernel_rfl) (by kernel_rfl) (listed' := #[true, true, true, true, true, true, true, true, true, true, true, true, true, true, true, true, true, true, false, false]) rfl rfl rfl rfl h2 x44 rfl ?_
        refine E.DW_take 18 (v := .bool true) rfl (by kernel_rfl) (by kernel_rfl) (by kernel_rfl) (listed' := #[true, true, true, true, true, true, true, true, true, true, true, true, true, true, true, true, true, true, true, false]) rfl rfl x44 (fun w_ hS => E.r_pick_t rfl h2 rfl) rfl ?_
        refine E.DW_take 19 (v := .bool true) rfl (by kernel_rfl) (by kernel_rfl) (by kernel_rfl) (listed' := #[true, true, true, true, true, true, true, true, true, true, true, true, true, true, true, true, true, true, true, true]) rfl rfl x44 (fun w_ hS => E.r_assign rfl) rfl ?_
        refine E.DW_done (by kernel_rfl) ?_
        refine E.nx_normal ?_
        refine ⟨_, e0_r36, e4_r36, e5_r36, e6_r36, e7_r36, e8_r36, e9_r36, rfl, rfl, rfl, rfl, rfl, rfl, rfl, rfl, x44, by simp; omega⟩
      · skip
        have h2' := of_decide_eq_false h2
        refine E.DW_takeg 8 (v := .pointer (some ⟨b, 0, none⟩)) rfl (by kernel_rfl) (by kernel_rfl) (by kernel_rfl) (listed' := #[true, true, true, true, true, true, true, true, true, false, false, false, false, false, false, false, false, false, false, false]) rfl rfl rfl rfl h2 x44 (fun w_ hS => E.r_move e0_r36) rfl ?_
        refine E.DW_takeg 9 (v := .pointer (some ⟨b, 0, none⟩)) rfl (by kernel_rfl) (by kernel_rfl) (by kernel_rfl) (listed' := #[true, true, true, true, true, true, true, true, true, true, false, false, false, false, false, false, false, false, false, false]) rfl rfl rfl rfl h2 x44 (fun w_ hS => E.r_nil rfl) rfl ?_
        refine E.DW_takeg 10 (v := .pointer (some ⟨b, 0, none⟩)) rfl (by kernel_rfl) (by kernel_rfl) (by kernel_rfl) (listed' := #[true, true, true, true, true, true, true, true, true, true, true, false, false, false, false, false, false, false, false, false]) rfl rfl rfl rfl h2 x44 (fun w_ hS => E.r_field rfl fo145_0) rfl ?_
        refine E.DW_takeg 11 (v := v.val) rfl (by kernel_rfl) (by kernel_rfl) (by kernel_rfl) (listed' := #[true, true, true, true, true, true, true, true, true, true, true, true, false, false, false, false, false, false, false, false]) rfl rfl rfl rfl h2 x44 (fun w_ hS => E.r_load rfl (E.ld1 Try.underlying22 rfl ((E.ext_range hb (E.Ext.trans x38 hS)) 0 _ rfl))) rfl ?_
        refine E.DW_takeg 12 (v := .int .i64 ((i : Nat) : Int)) rfl (by kernel_rfl) (by kernel_rfl) (by kernel_rfl) (listed' := #[true, true, true, true, true, true, true, true, true, true, true, true, true, false, false, false, false, false, false, false]) rfl rfl rfl rfl h2 x44 (fun w_ hS => E.r_move e9_r36) rfl ?_
        obtain ⟨y49, hy50⟩ : ∃ y, ps[i]? = some y := ⟨_, List.getElem?_eq_getElem (by first | omega | (have := hv.1; omega))⟩
        refine E.DW_takeg 13 (v := .pointer (some ⟨v.b, v.o + i * 16, none⟩)) rfl (by kernel_rfl) (by kernel_rfl) (by kernel_rfl) (listed' := #[true, true, true, true, true, true, true, true, true, true, true, true, true, true, false, false, false, false, false, false]) rfl rfl rfl rfl h2 x44 (fun w_ hS => E.r_indexSl rfl rfl Try.underlying22 ts24 hv hy50) rfl ?_
        refine E.DW_takeg 14 (v := .agg (kl y49).toArray) rfl (by kernel_rfl) (by kernel_rfl) (by kernel_rfl) (listed' := #[true, true, true, true, true, true, true, true, true, true, true, true, true, true, true, false, false, false, false, false]) rfl rfl rfl rfl h2 x44 (fun w_ hS => E.r_load rfl (E.ldk Try.underlying24 rfl (ts24.trans (congrArg some (kl_len _).symm)) (hv.at_ (E.Ext.trans x38 hS) hy50))) rfl ?_
        refine E.DW_takeg 15 (v := .agg (kl lo).toArray) rfl (by kernel_rfl) (by kernel_rfl) (by kernel_rfl) (listed' := #[true, true, true, true, true, true, true, true, true, true, true, true, true, true, true, true, false, false, false, false]) rfl rfl rfl rfl h2 x44 (fun w_ hS => E.r_load e4_r36 (E.ldk Try.underlying24 rfl (ts24.trans (congrArg some (kl_len _).symm)) (E.ext_range hr6 (E.Ext.trans x39 hS)))) rfl ?_
        refine E.DW_call 16 rfl (by kernel_rfl) (listed' := #[true, true, true, true, true, true, true, true, true, true, true, true, true, true, true, true, true, false, false, false]) rfl (.inr ⟨rfl, rfl, rfl, h2⟩) (E.r_call Try.func99 rfl rfl (E.args2 rfl rfl)) rfl ((ref_Cmp_ok w43 y49 lo).mono ?_)
        rintro _ w51 ⟨rfl, x52⟩
        have x53 := E.Ext.trans x45 x52
        have x54 := E.Ext.trans x46 x52
        have x55 := E.Ext.trans x47 x52
        have x56 := E.Ext.trans x48 x52
        have x57 := E.Ext.trans x44 x52
        refine ⟨_, rfl, x57, ?_⟩
        refine E.DW_takeg 17 (v := .bool (decide (0 < (kcmp y49 lo)))) rfl (by kernel_rfl) (by kernel_rfl) (by kernel_rfl) (listed' := #[true, true, true, true, true, true, true, true, true, true, true, true, true, true, true, true, true, true, false, false]) rfl rfl rfl rfl h2 x57 (fun w_ hS => E.r_gtr rfl rfl) rfl ?_
        refine E.DW_take 18 (v := .bool (decide (0 < (kcmp y49 lo)))) rfl (by kernel_rfl) (by kernel_rfl) (by kernel_rfl) (listed' := #[true, true, true, true, true, true, true, true, true, true, true, true, true, true, true, true, true, true, true, false]) rfl rfl x57 (fun w_ hS => E.r_pick_f rfl h2 rfl) rfl ?_
        refine E.DW_take 19 (v := .bool (decide (0 < (kcmp y49 lo)))) rfl (by kernel_rfl) (by kernel_rfl) (by kernel_rfl) (listed' := #[true, true, true, true, true, true, true, true, true, true, true, true, true, true, true, true, true, true, true, true]) rfl rfl x57 (fun w_ hS => E.r_assign rfl) rfl ?_
        refine E.DW_done (by kernel_rfl) ?_
        refine E.nx_normal ?_
        refine ⟨_, e0_r36, e4_r36, e5_r36, e6_r36, e7_r36, e8_r36, e9_r36, rfl, rfl, rfl, rfl, rfl, rfl, rfl, rfl, x57, ?_⟩
        rw [decide_eq_true_iff]
        constructor
        · intro h; exact .inr ⟨_, hy50, h⟩
        · rintro (h | ⟨p, hp, h⟩)
          · omega
          · rw [hy50] at hp; cases hp; exact h
    rintro r42 w41 ⟨c, e0_r42, e4_r42, e5_r42, e6_r42, e7_r42, e8_r42, e9_r42, e13_r42, e14_r42, e15_r42, e16_r42, e17_r42, e18_r42, e19_r42, e10_r42, x58, hinv_r42⟩
    have hinv := hinv_r42
    have x59 := E.Ext.trans x38 x58
    have x60 := E.Ext.trans x39 x58
    have x61 := E.Ext.trans x40 x58
    have x62 := E.Ext.trans x37 x58
    have hup := hinv
    refine E.RL_cut (fun ρ_ w_ => ∃ c' : Bool, ρ_ 0 = .pointer (some ⟨b, 0, none⟩) ∧ ρ_ 4 = .pointer (some ⟨b1, 0, none⟩) ∧ ρ_ 5 = .pointer (some ⟨b9, 0, none⟩) ∧ ρ_ 6 = .slice none 0 0 ∧ ρ_ 7 = .pointer (some ⟨b18, 0, none⟩) ∧ ρ_ 8 = r.val ∧ ρ_ 9 = .int .i64 ((i : Nat) : Int) ∧ ρ_ 10 = .bool c ∧ ρ_ 13 = .int .i64 ((i : Nat) : Int) ∧ ρ_ 14 = .pointer (some ⟨b, 0, none⟩) ∧ ρ_ 15 = .pointer (some ⟨b, 0, none⟩) ∧ ρ_ 16 = .pointer (some ⟨b, 0, none⟩) ∧ ρ_ 17 = v.val ∧ ρ_ 18 = .int .i64 ((v.len : Nat) : Int) ∧ ρ_ 19 = .bool (decide (((i : Nat) : Int) ≤ ((v.len : Nat) : Int))) ∧ ρ_ 11 = .bool c' ∧ E.Ext w41 w_ ∧ (c' = true ↔ (i = 0 ∨ hi = zeroK ∨ ∃ q, ps[i - 1]? = some q ∧ kcmp q hi < 0))) ?_ ?_
    · skip
      refine E.RL_draw (fun w_ => E.Ext w41 w_) (by kernel_rfl) (fuel := 21) (listed := #[false, false, false, false, false, false, false, false, false, false, false, false, false, false, false, false, false, false, false, false, false]) rfl rfl ?_
      obtain ⟨w65, x66e⟩ : ∃ y, y = World.drew w41 := ⟨_, rfl⟩
      rw [← x66e]
      have x66 : E.Ext w41 w65 := by rw [x66e]; exact E.Ext.drew _
      clear x66e
      have x67 := E.Ext.trans x59 x66
      have x68 := E.Ext.trans x60 x66
      have x69 := E.Ext.trans x61 x66
      have x70 := E.Ext.trans x62 x66
      have x71 := E.Ext.trans x58 x66
      refine E.DW_take 0 (v := .int .i64 ((i : Nat) : Int)) rfl (by kernel_rfl) (by kernel_rfl) (by kernel_rfl) (listed' := #[true, false, false, false, false, false, false, false, false, false, false, false, false, false, false, false, false, false, false, false, false]) rfl rfl x66 (fun w_ hS => E.r_move e9_r42) rfl ?_
      refine E.DW_take 1 (v := .bool (decide (((i : Nat) : Int) = 0))) rfl (by kernel_rfl) (by kernel_rfl) (by kernel_rfl) (listed' := #[true, true, false, false, false, false, false, false, false, false, false, false, false, false, false, false, false, false, false, false, false]) rfl rfl x66 (fun w_ hS => E.r_eql rfl rfl) rfl ?_
      refine E.DW_take 2 (v := .bool (decide (((i : Nat) : Int) = 0))) rfl (by kernel_rfl) (by kernel_rfl) (by kernel_rfl) (listed' := #[true, true, true, false, false, false, false, false, false, false, false, false, false, false, false, false, false, false, false, false, false]) rfl rfl x66 (fun w_ hS => E.r_move rfl) rfl ?_
      rcases E.bool_cases (decide (((i : Nat) : Int) = 0)) with h2 | h2
      · skip
        have h2' := of_decide_eq_true h2
        refine E.DW_no 3 rfl (by kernel_rfl) (by kernel_rfl) (by kernel_rfl) (listed' := #[true, true, true, true, false, false, false, false, false, false, false, false, false, false, false, false, false, false, false, false, false]) rfl rfl rfl rfl h2 x66 rfl ?_
        refine E.DW_no 4 rfl (by kernel_rfl) (by kernel_rfl) (by kernel_rfl) (listed' := #[true, true, true, true, true, false, false, false, false, false, false, false, false, false, false, false, false, false, false, false, false]) rfl rfl rfl rfl h2 x66 rfl ?_
        refine E.DW_no 5 rfl (by kernel_rfl) (by kernel_rfl) (by kernel_rfl) (listed' := #[true, true, true, true, true, true, false, false, false, false, false, false, false, false, false, false, false, false, false, false, false]) rfl rfl rfl rfl h2 x66 rfl ?_
        refine E.DW_take 6 (v := .bool true) rfl (by kernel_rfl) (by kernel_rfl) (by kernel_rfl) (listed' := #[true, true, true, true, true, true, true, false, false, false, false, false, false, false, false, false, false, false, false, false, false]) rfl rfl x66 (fun w_ hS => E.r_pick_t rfl h2 rfl) rfl ?_
        refine E.DW_take 7 (v := .bool true) rfl (by kernel_rfl) (by kernel_rfl) (by kernel_rfl) (listed' := #[true, true, true, true, true, true, true, true, false, false, false, false, false, false, false, false, false, false, false, false, false]) rfl rfl x66 (fun w_ hS => E.r_move rfl) rfl ?_
        refine E.DW_no 8 rfl (by kernel_rfl) (by kernel_rfl) (by kernel_rfl) (listed' := #[true, true, true, true, true, true, true, true, true, false, false, false, false, false, false, false, false, false, false, false, false]) rfl rfl rfl rfl rfl x66 rfl ?_
        refine E.DW_no 9 rfl (by kernel_rfl) (by kernel_rfl) (by kernel_rfl) (listed' := #[true, true, true, true, true, true, true, true, true, true, false, false, false, false, false, false, false, false, false, false, false]) rfl rfl rfl rfl rfl x66 rfl ?_
        refine E.DW_no 10 rfl (by kernel_rfl) (by kernel_rfl) (by kernel_rfl) (listed' := #[true, true, true, true, true, true, true, true, true, true, true, false, false, false, false, false, false, false, false, false, false]) rfl rfl rfl rfl rfl x66 rfl ?_
        refine E.DW_no 11 rfl (by kernel_rfl) (by kernel_rfl) (by kernel_rfl) (listed' := #[true, true, true, true, true, true, true, true, true, true, true, true, false, false, false, false, false, false, false, false, false]) rfl rfl rfl rfl rfl x66 rfl ?_
        refine E.DW_no 12 rfl (by kernel_rfl) (by kernel_rfl) (by kernel_rfl) (listed' := #[true, true, true, true, true, true, true, true, true, true, true, true, true, false, false, false, false, false, false, false, false]) rfl rfl rfl rfl rfl x66 rfl ?_
        refine E.DW_no 13 rfl (by kernel_rfl) (by kernel_rfl) (by kernel_rfl) (listed' := #[true, true, true, true, true, true, true, true, true, true, true, true, true, true, false, false, false, false, false, false, false]) rfl rfl rfl rfl rfl x66 rfl ?_
        refine E.DW_no 14 rfl (by kernel_rfl) (by kernel_rfl) (by kernel_rfl) (listed' := #[true, true, true, true, true, true, true, true, true, true, true, true, true, true, true, false, false, false, false, false, false]) rfl rfl rfl rfl rfl x66 rfl ?_
        refine E.DW_no 15 rfl (by kernel_rfl) (by kernel_rfl) (by kernel_rfl) (listed' := #[true, true, true, true, true, true, true, true, true, true, true, true, true, true, true, true, false, false, false, false, false]) rfl rfl rfl rfl rfl x66 rfl ?_
        refine E.DW_no 16 rfl (by kernel_rfl) (by kernel_rfl) (by kernel_rfl) (listed' := #[true, true, true, true, true, true, true, true, true, true, true, true, true, true, true, true, true, false, false, false, false]) rfl rfl rfl rfl rfl x66 rfl ?_
        refine E.DW_no 17 rfl (by kernel_rfl) (by kernel_rfl) (by kernel_rfl) (listed' := #[true, true, true, true, true, true, true, true, true, true, true, true, true, true, true, true, true, true, false, false, false]) rfl rfl rfl rfl rfl x66 rfl ?_
        refine E.DW_no 18 rfl (by kernel_rfl) (by kernel_rfl) (by kernel_rfl) (listed' := #[true, true, true, true, true, true, true, true, true, true, true, true, true, true, true, true, true, true, true, false, false]) rfl rfl rfl rfl rfl x66 rfl ?_
        refine E.DW_take 19 (v := .bool true) rfl (by kernel_rfl) (by kernel_rfl) (by kernel_rfl) (listed' := #[true, true, true, true, true, true, true, true, true, true, true, true, true, true, true, true, true, true, true, true, false]) rfl rfl x66 (fun w_ hS => E.r_pick_t rfl rfl rfl) rfl ?_
        refine E.DW_take 20 (v := .bool true) rfl (by kernel_rfl) (by kernel_rfl) (by kernel_rfl) (listed' := #[true, true, true, true, true, true, true, true, true, true, true, true, true, true, true, true, true, true, true, true, true]) rfl rfl x66 (fun w_ hS => E.r_assign rfl) rfl ?_
        refine E.DW_done (by kernel_rfl) ?_
        refine E.nx_normal ?_
        refine ⟨_, e0_r42, e4_r42, e5_r42, e6_r42, e7_r42, e8_r42, e9_r42, e10_r42, e13_r42, e14_r42, e15_r42, e16_r42, e17_r42, e18_r42, e19_r42, rfl, x66, by simp; omega⟩
      · skip
        have h2' := of_decide_eq_false h2
        refine E.DW_takeg 3 (v := .agg (kl hi).toArray) rfl (by kernel_rfl) (by kernel_rfl) (by kernel_rfl) (listed' := #[true, true, true, true, false, false, false, false, false, false, false, false, false, false, false, false, false, false, false, false, false]) rfl rfl rfl rfl h2 x66 (fun w_ hS => E.r_load e5_r42 (E.ldk Try.underlying24 rfl (ts24.trans (congrArg some (kl_len _).symm)) (E.ext_range hr14 (E.Ext.trans x61 hS)))) rfl ?_
        refine E.DW_takeg 4 (v := .agg (kl zeroK).toArray) rfl (by kernel_rfl) (by kernel_rfl) (by kernel_rfl) (listed' := #[true, true, true, true, true, false, false, false, false, false, false, false, false, false, false, false, false, false, false, false, false]) rfl rfl rfl rfl h2 x66 (fun w_ hS => E.r_load e7_r42 (E.ldk Try.underlying24 rfl (ts24.trans (congrArg some (kl_len _).symm)) (E.ext_range hr33 (E.Ext.trans x62 hS)))) rfl ?_
        refine E.DW_takeg 5 (v := .bool (decide (hi = zeroK))) rfl (by kernel_rfl) (by kernel_rfl) (by kernel_rfl) (listed' := #[true, true, true, true, true, true, false, false, false, false, false, false, false, false, false, false, false, false, false, false, false]) rfl rfl rfl rfl h2 x66 (fun w_ hS => r_eqlK rfl rfl) rfl ?_
        refine E.DW_take 6 (v := .bool (decide (hi = zeroK))) rfl (by kernel_rfl) (by kernel_rfl) (by kernel_rfl) (listed' := #[true, true, true, true, true, true, true, false, false, false, false, false, false, false, false, false, false, false, false, false, false]) rfl rfl x66 (fun w_ hS => E.r_pick_f rfl h2 rfl) rfl ?_
        refine E.DW_take 7 (v := .bool (decide (hi = zeroK))) rfl (by kernel_rfl) (by kernel_rfl) (by kernel_rfl) (listed' := #[true, true, true, true, true, true, true, true, false, false, false, false, false, false, false, false, false, false, false, false, false]) rfl rfl x66 (fun w_ hS => E.r_move rfl) rfl ?_
        rcases E.bool_cases (decide (hi = zeroK)) with h3 | h3
        · skip
          have h3' := of_decide_eq_true h3
          have h3' : hi = zeroK := by simpa using h3
          refine E.DW_no 8 rfl (by kernel_rfl) (by kernel_rfl) (by kernel_rfl) (listed' := #[true, true, true, true, true, true, true, true, true, false, false, false, false, false, false, false, false, false, false, false, false]) rfl rfl rfl rfl h3 x66 rfl ?_
          refine E.DW_no 9 rfl (by kernel_rfl) (by kernel_rfl) (by kernel_rfl) (listed' := #[true, true, true, true, true, true, true, true, true, true, false, false, false, false, false, false, false, false, false, false, false]) rfl rfl rfl rfl h3 x66 rfl ?_
          refine E.DW_no 10 rfl (by kernel_rfl) (by kernel_rfl) (by kernel_rfl) (listed' := #[true, true, true, true, true, true, true, true, true, true, true, false, false, false, false, false, false, false, false, false, false]) rfl rfl rfl rfl h3 x66 rfl ?_
          refine E.DW_no 11 rfl (by kernel_rfl) (by kernel_rfl) (by kernel_rfl) (listed' := #[true, true, true, true, true, true, true, true, true, true, true, true, false, false, false, false, false, false, false, false, false]) rfl rfl rfl rfl h3 x66 rfl ?_
          refine E.DW_no 12 rfl (by kernel_rfl) (by kernel_rfl) (by kernel_rfl) (listed' := #[true, true, true, true, true, true, true, true, true, true, true, true, true, false, false, false, false, false, false, false, false]) rfl rfl rfl rfl h3 x66 rfl ?_
          refine E.DW_no 13 rfl (by kernel_rfl) (by kernel_rfl) (by kernel_rfl) (listed' := #[true, true, true, true, true, true, true, true, true, true, true, true, true, true, false, false, false, false, false, false, false]) rfl rfl rfl rfl h3 x66 rfl ?_
          refine E.DW_no 14 rfl (by kernel_rfl) (by kernel_rfl) (by kernel_rfl) (listed' := #[true, true, true, true, true, true, true, true, true, true, true, true, true, true, true, false, false, false, false, false, false]) rfl rfl rfl rfl h3 x66 rfl ?_
          refine E.DW_no 15 rfl (by kernel_rfl) (by kernel_rfl) (by kernel_rfl) (listed' := #[true, true, true, true, true, true, true, true, true, true, true, true, true, true, true, true, false, false, false, false, false]) rfl rfl rfl rfl h3 x66 rfl ?_
          refine E.DW_no 16 rfl (by kernel_rfl) (by kernel_rfl) (by kernel_rfl) (listed' := #[true, true, true, true, true, true, true, true, true, true, true, true, true, true, true, true, true, false, false, false, false]) rfl rfl rfl rfl h3 x66 rfl ?_
          refine E.DW_no 17 rfl (by kernel_rfl) (by kernel_rfl) (by kernel_rfl) (listed' := #[true, true, true, true, true, true, true, true, true, true, true, true, true, true, true, true, true, true, false, false, false]) rfl rfl rfl rfl h3 x66 rfl ?_
          refine E.DW_no 18 rfl (by kernel_rfl) (by kernel_rfl) (by kernel_rfl) (listed' := #[true, true, true, true, true, true, true, true, true, true, true, true, true, true, true, true, true, true, true, false, false]) rfl rfl rfl rfl h3 x66 rfl ?_
          refine E.DW_take 19 (v := .bool true) rfl (by kernel_rfl) (by kernel_rfl) (by kernel_rfl) (listed' := #[true, true, true, true, true, true, true, true, true, true, true, true, true, true, true, true, true, true, true, true, false]) rfl rfl x66 (fun w_ hS => E.r_pick_t rfl h3 rfl) rfl ?_
          refine E.DW_take 20 (v := .bool true) rfl (by kernel_rfl) (by kernel_rfl) (by kernel_rfl) (listed' := #[true, true, true, true, true, true, true, true, true, true, true, true, true, true, true, true, true, true, true, true, true]) rfl rfl x66 (fun w_ hS => E.r_assign rfl) rfl ?_
          refine E.DW_done (by kernel_rfl) ?_
          refine E.nx_normal ?_
          refine ⟨_, e0_r42, e4_r42, e5_r42, e6_r42, e7_r42, e8_r42, e9_r42, e10_r42, e13_r42, e14_r42, e15_r42, e16_r42, e17_r42, e18_r42, e19_r42, rfl, x66, by simp [h3']⟩
        · skip
          have h3' := of_decide_eq_false h3
          have h3' : hi ≠ zeroK := by simpa using h3
          refine E.DW_takeg 8 (v := .pointer (some ⟨b, 0, none⟩)) rfl (by kernel_rfl) (by kernel_rfl) (by kernel_rfl) (listed' := #[true, true, true, true, true, true, true, true, true, false, false, false, false, false, false, false, false, false, false, false, false]) rfl rfl rfl rfl h3 x66 (fun w_ hS => E.r_move e0_r42) rfl ?_
          refine E.DW_takeg 9 (v := .pointer (some ⟨b, 0, none⟩)) rfl (by kernel_rfl) (by kernel_rfl) (by kernel_rfl) (listed' := #[true, true, true, true, true, true, true, true, true, true, false, false, false, false, false, false, false, false, false, false, false]) rfl rfl rfl rfl h3 x66 (fun w_ hS => E.r_nil rfl) rfl ?_
          refine E.DW_takeg 10 (v := .pointer (some ⟨b, 0, none⟩)) rfl (by kernel_rfl) (by kernel_rfl) (by kernel_rfl) (listed' := #[true, true, true, true, true, true, true, true, true, true, true, false, false, false, false, false, false, false, false, false, false]) rfl rfl rfl rfl h3 x66 (fun w_ hS => E.r_field rfl fo145_0) rfl ?_
          refine E.DW_takeg 11 (v := v.val) rfl (by kernel_rfl) (by kernel_rfl) (by kernel_rfl) (listed' := #[true, true, true, true, true, true, true, true, true, true, true, true, false, false, false, false, false, false, false, false, false]) rfl rfl rfl rfl h3 x66 (fun w_ hS => E.r_load rfl (E.ld1 Try.underlying22 rfl ((E.ext_range hb (E.Ext.trans x59 hS)) 0 _ rfl))) rfl ?_
          refine E.DW_takeg 12 (v := .int .i64 ((i : Nat) : Int)) rfl (by kernel_rfl) (by kernel_rfl) (by kernel_rfl) (listed' := #[true, true, true, true, true, true, true, true, true, true, true, true, true, false, false, false, false, false, false, false, false]) rfl rfl rfl rfl h3 x66 (fun w_ hS => E.r_move e9_r42) rfl ?_
          refine E.DW_takeg 13 (v := .int .i64 ((i - 1 : Nat) : Int)) rfl (by kernel_rfl) (by kernel_rfl) (by kernel_rfl) (listed' := #[true, true, true, true, true, true, true, true, true, true, true, true, true, true, false, false, false, false, false, false, false]) rfl rfl rfl rfl h3 x66 (fun w_ hS => E.r_sub rfl rfl (by rw [E.wrap_i64 (by omega) (by omega)]; omega)) rfl ?_
          obtain ⟨y72, hy73⟩ : ∃ y, ps[i - 1]? = some y := ⟨_, List.getElem?_eq_getElem (by first | omega | (have := hv.1; omega))⟩
          refine E.DW_takeg 14 (v := .pointer (some ⟨v.b, v.o + (i - 1) * 16, none⟩)) rfl (by kernel_rfl) (by kernel_rfl) (by kernel_rfl) (listed' := #[true, true, true, true, true, true, true, true, true, true, true, true, true, true, true, false, false, false, false, false, false]) rfl rfl rfl rfl h3 x66 (fun w_ hS => E.r_indexSl rfl rfl Try.underlying22 ts24 hv hy73) rfl ?_
          refine E.DW_takeg 15 (v := .agg (kl y72).toArray) rfl (by kernel_rfl) (by kernel_rfl) (by kernel_rfl) (listed' := #[true, true, true, true, true, true, true, true, true, true, true, true, true, true, true, true, false, false, false, false, false]) rfl rfl rfl rfl h3 x66 (fun w_ hS => E.r_load rfl (E.ldk Try.underlying24 rfl (ts24.trans (congrArg some (kl_len _).symm)) (hv.at_ (E.Ext.trans x59 hS) hy73))) rfl ?_
          refine E.DW_takeg 16 (v := .agg (kl hi).toArray) rfl (by kernel_rfl) (by kernel_rfl) (by kernel_rfl) (listed' := #[true, true, true, true, true, true, true, true, true, true, true, true, true, true, true, true, true, false, false, false, false]) rfl rfl rfl rfl h3 x66 (fun w_ hS => E.r_load e5_r42 (E.ldk Try.underlying24 rfl (ts24.trans (congrArg some (kl_len _).symm)) (E.ext_range hr14 (E.Ext.trans x61 hS)))) rfl ?_
          refine E.DW_call 17 rfl (by kernel_rfl) (listed' := #[true, true, true, true, true, true, true, true, true, true, true, true, true, true, true, true, true, true, false, false, false]) rfl (.inr ⟨rfl, rfl, rfl, h3⟩) (E.r_call Try.func99 rfl rfl (E.args2 rfl rfl)) rfl ((ref_Cmp_ok w65 y72 hi).mono ?_)
          rintro _ w74 ⟨rfl, x75⟩
          have x76 := E.Ext.trans x67 x75
          have x77 := E.Ext.trans x68 x75
          have x78 := E.Ext.trans x69 x75
          have x79 := E.Ext.trans x70 x75
          have x80 := E.Ext.trans x71 x75
          have x81 := E.Ext.trans x66 x75
          refine ⟨_, rfl, x81, ?_⟩
          refine E.DW_takeg 18 (v := .bool (decide ((kcmp y72 hi) < 0))) rfl (by kernel_rfl) (by kernel_rfl) (by kernel_rfl) (listed' := #[true, true, true, true, true, true, true, true, true, true, true, true, true, true, true, true, true, true, true, false, false]) rfl rfl rfl rfl h3 x81 (fun w_ hS => E.r_lss rfl rfl) rfl ?_
          refine E.DW_take 19 (v := .bool (decide ((kcmp y72 hi) < 0))) rfl (by kernel_rfl) (by kernel_rfl) (by kernel_rfl) (listed' := #[true, true, true, true, true, true, true, true, true, true, true, true, true, true, true, true, true, true, true, true, false]) rfl rfl x81 (fun w_ hS => E.r_pick_f rfl h3 rfl) rfl ?_
          refine E.DW_take 20 (v := .bool (decide ((kcmp y72 hi) < 0))) rfl (by kernel_rfl) (by kernel_rfl) (by kernel_rfl) (listed' := #[true, true, true, true, true, true, true, true, true, true, true, true, true, true, true, true, true, true, true, true, true]) rfl rfl x81 (fun w_ hS => E.r_assign rfl) rfl ?_
          refine E.DW_done (by kernel_rfl) ?_
          refine E.nx_normal ?_
          refine ⟨_, e0_r42, e4_r42, e5_r42, e6_r42, e7_r42, e8_r42, e9_r42, e10_r42, e13_r42, e14_r42, e15_r42, e16_r42, e17_r42, e18_r42, e19_r42, rfl, x81, ?_⟩
          rw [decide_eq_true_iff]
          constructor
          · intro h; exact .inr (.inr ⟨_, hy73, h⟩)
          · rintro (h | h | ⟨p, hp, h⟩)
            · omega
            · exact absurd h h3'
            · rw [hy73] at hp; cases hp; exact h
    rintro r64 w63 ⟨c', e0_r64, e4_r64, e5_r64, e6_r64, e7_r64, e8_r64, e9_r64, e10_r64, e13_r64, e14_r64, e15_r64, e16_r64, e17_r64, e18_r64, e19_r64, e11_r64, x82, hinv_r64⟩
    have hinv := hinv_r64
    have x83 := E.Ext.trans x59 x82
    have x84 := E.Ext.trans x60 x82
    have x85 := E.Ext.trans x61 x82
    have x86 := E.Ext.trans x62 x82
    have x87 := E.Ext.trans x58 x82
    have hdn := hinv
    refine E.RL_cut (fun ρ_ w_ => ∃ c'' : Bool, ρ_ 0 = .pointer (some ⟨b, 0, none⟩) ∧ ρ_ 4 = .pointer (some ⟨b1, 0, none⟩) ∧ ρ_ 5 = .pointer (some ⟨b9, 0, none⟩) ∧ ρ_ 6 = .slice none 0 0 ∧ ρ_ 7 = .pointer (some ⟨b18, 0, none⟩) ∧ ρ_ 8 = r.val ∧ ρ_ 9 = .int .i64 ((i : Nat) : Int) ∧ ρ_ 10 = .bool c ∧ ρ_ 11 = .bool c' ∧ ρ_ 13 = .int .i64 ((i : Nat) : Int) ∧ ρ_ 14 = .pointer (some ⟨b, 0, none⟩) ∧ ρ_ 15 = .pointer (some ⟨b, 0, none⟩) ∧ ρ_ 16 = .pointer (some ⟨b, 0, none⟩) ∧ ρ_ 17 = v.val ∧ ρ_ 18 = .int .i64 ((v.len : Nat) : Int) ∧ ρ_ 19 = .bool (decide (((i : Nat) : Int) ≤ ((v.len : Nat) : Int))) ∧ ρ_ 75 = .bool c'' ∧ E.Ext w63 w_ ∧ (c'' = true ↔ CovAt ps lo hi i)) ?_ ?_
    · skip
      refine E.RL_region ?_
      refine E.OW_val (v := .bool c) rfl (E.r_move e10_r64) rfl ?_
      refine E.OW_val (v := .bool c) rfl (E.r_move rfl) rfl ?_
      rcases E.bool_cases c with h2 | h2
      · skip
        refine E.OW_yes rfl rfl rfl h2 ?_
        refine E.OW_val (v := .bool c') rfl (E.r_move e11_r64) rfl ?_
        refine E.OW_val (v := .bool c') rfl (E.r_pick_t rfl h2 rfl) rfl ?_
        refine E.OW_val (v := .bool c') rfl (E.r_move rfl) rfl ?_
        rcases E.bool_cases c' with h3 | h3
        · skip
          refine E.OW_yes rfl rfl rfl h3 ?_
          refine E.OW_val (v := .agg (kl hi).toArray) rfl (E.r_load e5_r64 (E.ldk Try.underlying24 rfl (ts24.trans (congrArg some (kl_len _).symm)) (E.ext_range hr14 x85))) rfl ?_
          refine E.OW_yes rfl rfl rfl h3 ?_
          refine E.OW_val (v := .agg (kl zeroK).toArray) rfl (E.r_load e7_r64 (E.ldk Try.underlying24 rfl (ts24.trans (congrArg some (kl_len _).symm)) (E.ext_range hr33 x86))) rfl ?_
          refine E.OW_yes rfl rfl rfl h3 ?_
          refine E.OW_val (v := .bool (decide (hi = zeroK))) rfl (r_eqlK rfl rfl) rfl ?_
          refine E.OW_yes rfl rfl rfl h3 ?_
          refine E.OW_val (v := .bool (decide (hi = zeroK))) rfl (E.r_move rfl) rfl ?_
          rcases E.bool_cases (decide (hi = zeroK)) with h4 | h4
          · skip
            have h4' := of_decide_eq_true h4
            have h4' : hi = zeroK := by simpa using h4
            refine E.OW_no rfl rfl rfl h4 rfl ?_
            refine E.OW_no rfl rfl rfl h4 rfl ?_
            refine E.OW_no rfl rfl rfl h4 rfl ?_
            refine E.OW_no rfl rfl rfl h4 rfl ?_
            refine E.OW_yes rfl rfl rfl h3 ?_
            refine E.OW_val (v := .bool true) rfl (E.r_pick_t rfl h4 rfl) rfl ?_
            refine E.OW_val (v := .bool true) rfl (E.r_pick_t rfl h3 rfl) rfl ?_
            refine E.OW_nil ?_
            refine E.nx_normal ?_
            refine ⟨_, e0_r64, e4_r64, e5_r64, e6_r64, e7_r64, e8_r64, e9_r64, e10_r64, e11_r64, e13_r64, e14_r64, e15_r64, e16_r64, e17_r64, e18_r64, e19_r64, rfl, (E.Ext.refl _), by simp only [true_iff]; exact ⟨hup.1 h2, hdn.1 h3, .inl h4'⟩⟩
          · skip
            have h4' := of_decide_eq_false h4
            have h4' : hi ≠ zeroK := by simpa using h4
            refine E.OW_yes rfl rfl rfl h4 ?_
            refine E.OW_val (v := .agg (kl hi).toArray) rfl (E.r_load e5_r64 (E.ldk Try.underlying24 rfl (ts24.trans (congrArg some (kl_len _).symm)) (E.ext_range hr14 x85))) rfl ?_
            refine E.OW_yes rfl rfl rfl h4 ?_
            refine E.OW_val (v := .agg (kl lo).toArray) rfl (E.r_load e4_r64 (E.ldk Try.underlying24 rfl (ts24.trans (congrArg some (kl_len _).symm)) (E.ext_range hr6 x84))) rfl ?_
            refine E.OW_yes rfl rfl rfl h4 ?_
            refine E.OW_call rfl (E.r_call Try.func99 rfl rfl (E.args2 rfl rfl)) rfl ((ref_Cmp_ok w63 hi lo).mono ?_)
            rintro _ w90 ⟨rfl, x91⟩
            refine ⟨_, rfl, ?_⟩
            have x92 := E.Ext.trans x83 x91
            have x93 := E.Ext.trans x84 x91
            have x94 := E.Ext.trans x85 x91
            have x95 := E.Ext.trans x86 x91
            have x96 := E.Ext.trans x87 x91
            have x97 := E.Ext.trans x82 x91
            refine E.OW_yes rfl rfl rfl h4 ?_
            refine E.OW_val (v := .bool (decide (0 < (kcmp hi lo)))) rfl (E.r_gtr rfl rfl) rfl ?_
            refine E.OW_yes rfl rfl rfl h3 ?_
            refine E.OW_val (v := .bool (decide (0 < (kcmp hi lo)))) rfl (E.r_pick_f rfl h4 rfl) rfl ?_
            refine E.OW_val (v := .bool (decide (0 < (kcmp hi lo)))) rfl (E.r_pick_t rfl h3 rfl) rfl ?_
            refine E.OW_nil ?_
            refine E.nx_normal ?_
            refine ⟨_, e0_r64, e4_r64, e5_r64, e6_r64, e7_r64, e8_r64, e9_r64, e10_r64, e11_r64, e13_r64, e14_r64, e15_r64, e16_r64, e17_r64, e18_r64, e19_r64, rfl, x91, ?_⟩
            rw [decide_eq_true_iff]
            constructor
            · intro h; exact ⟨hup.1 h2, hdn.1 h3, .inr h⟩
            · rintro ⟨_, _, h | h⟩
              · exact absurd h h4'
              · exact h
        · skip
          refine E.OW_no rfl rfl rfl h3 rfl ?_
          refine E.OW_no rfl rfl rfl h3 rfl ?_
          refine E.OW_no rfl rfl rfl h3 rfl ?_
          refine E.OW_no rfl rfl rfl h3 rfl ?_
          refine E.OW_nou rfl rfl rfl rfl ?_
          refine E.OW_nou rfl rfl rfl rfl ?_
          refine E.OW_nou rfl rfl rfl rfl ?_
          refine E.OW_nou rfl rfl rfl rfl ?_
          refine E.OW_no rfl rfl rfl h3 rfl ?_
          refine E.OW_val (v := .bool false) rfl (E.r_pick_f rfl h3 rfl) rfl ?_
          refine E.OW_nil ?_
          refine E.nx_normal ?_
          refine ⟨_, e0_r64, e4_r64, e5_r64, e6_r64, e7_r64, e8_r64, e9_r64, e10_r64, e11_r64, e13_r64, e14_r64, e15_r64, e16_r64, e17_r64, e18_r64, e19_r64, rfl, (E.Ext.refl _), by simp only [Bool.false_eq_true, false_iff]; exact fun hc => by rw [hdn.2 hc.2.1] at h3; cases h3⟩
      · skip
        refine E.OW_no rfl rfl rfl h2 rfl ?_
        refine E.OW_val (v := .bool false) rfl (E.r_pick_f rfl h2 rfl) rfl ?_
        refine E.OW_val (v := .bool false) rfl (E.r_move rfl) rfl ?_
        refine E.OW_no rfl rfl rfl rfl rfl ?_
        refine E.OW_no rfl rfl rfl rfl rfl ?_
        refine E.OW_no rfl rfl rfl rfl rfl ?_
        refine E.OW_no rfl rfl rfl rfl rfl ?_
        refine E.OW_nou rfl rfl rfl rfl ?_
        refine E.OW_nou rfl rfl rfl rfl ?_
        refine E.OW_nou rfl rfl rfl rfl ?_
        refine E.OW_nou rfl rfl rfl rfl ?_
        refine E.OW_no rfl rfl rfl rfl rfl ?_
        refine E.OW_val (v := .bool false) rfl (E.r_pick_f rfl rfl rfl) rfl ?_
        refine E.OW_nil ?_
        refine E.nx_normal ?_
        refine ⟨_, e0_r64, e4_r64, e5_r64, e6_r64, e7_r64, e8_r64, e9_r64, e10_r64, e11_r64, e13_r64, e14_r64, e15_r64, e16_r64, e17_r64, e18_r64, e19_r64, rfl, (E.Ext.refl _), by simp only [Bool.false_eq_true, false_iff]; exact fun hc => by rw [hup.2 hc.1] at h2; cases h2⟩
    rintro r89 w88 ⟨c'', e0_r89, e4_r89, e5_r89, e6_r89, e7_r89, e8_r89, e9_r89, e10_r89, e11_r89, e13_r89, e14_r89, e15_r89, e16_r89, e17_r89, e18_r89, e19_r89, e75_r89, x98, hinv_r89⟩
    have hinv := hinv_r89
    have x99 := E.Ext.trans x83 x98
    have x100 := E.Ext.trans x84 x98
    have x101 := E.Ext.trans x85 x98
    have x102 := E.Ext.trans x86 x98
    have x103 := E.Ext.trans x87 x98
    have x104 := E.Ext.trans x82 x98
    refine E.RL_cond e75_r89 (fun h2 => ?_) (fun h2 => ?_)
    · skip
      refine E.RL_region ?_
      refine E.OW_val (v := r.val) rfl (E.r_move e8_r89) rfl ?_
      refine E.OW_val (v := .int .i64 ((i : Nat) : Int)) rfl (E.r_move e9_r89) rfl ?_
      refine E.OW_lit1 (enc := il) (y := ((i : Nat) : Int)) rfl rfl Try.underlying42 el3 il_len (by omega) rfl (fun v105 w106 x107 ho108 => ?_)
      have x109 := E.Ext.trans x99 x107
      have x110 := E.Ext.trans x100 x107
      have x111 := E.Ext.trans x101 x107
      have x112 := E.Ext.trans x102 x107
      have x113 := E.Ext.trans x103 x107
      have x114 := E.Ext.trans x104 x107
      have x115 := E.Ext.trans x98 x107
      refine E.OW_append (base := w28.heap.size) (enc := il) (v := r) (u := v105) (l := (cov ps lo hi i)) (m := ([((i : Nat) : Int)])) rfl rfl Try.underlying42 el3 il_len (by omega) il_one (E.Own.ext ho x113) ((E.Own.rd ho108 il_len).ext (E.Ext.refl _)) (by first | omega | (simp only [List.length_cons, List.length_nil, List.length_append, List.length_replicate]; omega)) x112.size rfl (fun v116 w117 ho118 hg119 _ => ?_)
      have x120 := E.ext_grown x109 hg119 (fun k_ hk_ => Nat.le_trans (x30.size) (E.Own.above (E.Own.ext ho x113) k_ hk_))
      have x121 := E.ext_grown x110 hg119 (fun k_ hk_ => Nat.le_trans (x31.size) (E.Own.above (E.Own.ext ho x113) k_ hk_))
      have x122 := E.ext_grown x111 hg119 (fun k_ hk_ => Nat.le_trans (x32.size) (E.Own.above (E.Own.ext ho x113) k_ hk_))
      have x123 := E.ext_grown x112 hg119 (fun k_ hk_ => Nat.le_trans (Nat.le_refl _) (E.Own.above (E.Own.ext ho x113) k_ hk_))
      refine E.OW_val (v := v116.val) rfl (E.r_assign rfl) rfl ?_
      refine E.OW_nil ?_
      refine E.blk_normal ?_
      refine E.nx_normal ?_
      refine E.RL_region ?_
      refine E.OW_val (v := .int .i64 ((i : Nat) : Int)) rfl (E.r_move e9_r89) rfl ?_
      refine E.OW_val (v := .int .i64 ((i + 1 : Nat) : Int)) rfl (E.r_add rfl rfl (by rw [E.wrap_i64 (by omega) (by omega)]; omega)) rfl ?_
      refine E.OW_val (v := .int .i64 ((i + 1 : Nat) : Int)) rfl (E.r_assign rfl) rfl ?_
      refine E.OW_nil ?_
      refine E.nx_normal ?_
      refine ⟨_, (i + 1, v116), ?_, rfl, e0_r89, e4_r89, e5_r89, e6_r89, e7_r89, rfl, rfl, x123, ⟨by omega, ?_⟩⟩
      omega
      rw [cov_succ, if_pos (hinv.1 h2)]
      exact (E.Own.ext ho118 (E.Ext.refl _))
    · skip
      refine E.RL_skip ?_
      refine E.blk_normal ?_
      refine E.nx_normal ?_
      refine E.RL_region ?_
      refine E.OW_val (v := .int .i64 ((i : Nat) : Int)) rfl (E.r_move e9_r89) rfl ?_
      refine E.OW_val (v := .int .i64 ((i + 1 : Nat) : Int)) rfl (E.r_add rfl rfl (by rw [E.wrap_i64 (by omega) (by omega)]; omega)) rfl ?_
      refine E.OW_val (v := .int .i64 ((i + 1 : Nat) : Int)) rfl (E.r_assign rfl) rfl ?_
      refine E.OW_nil ?_
      refine E.nx_normal ?_
      refine ⟨_, (i + 1, r), ?_, rfl, e0_r89, e4_r89, e5_r89, e6_r89, e7_r89, rfl, e8_r89, x102, ⟨by omega, ?_⟩⟩
      omega
      rw [cov_succ, if_neg (fun hc => by rw [hinv.2 hc] at h2; cases h2), List.append_nil]
      exact (E.Own.ext ho x103)
  · skip
    have h1' := of_decide_eq_false h1
    refine E.RL_exit ?_
    refine E.nx_exit ?_
    refine E.nx_exit ?_
    refine E.blk_eq ?_
    refine E.nx_normal ?_
    refine E.RL_seq ?_
    refine E.RL_region ?_
    refine E.OW_val (v := r.val) rfl (E.r_move e8_r36) rfl ?_
    refine E.OW_val (v := r.val) rfl (E.r_assign rfl) rfl ?_
    refine E.OW_nil ?_
    refine E.nx_normal ?_
    refine E.RL_ret ?_
    refine E.post_ret (E.res1 rfl) ?_
    refine ⟨r, rfl, x38, ?_⟩
    have e : ps.length + 1 = i := by omega
    rw [e]
    exact (E.Own.ext (E.Own.mono ho x30.size) (E.Ext.refl _))
end Go.Proofs.Ytmajbdehejhbfaa
