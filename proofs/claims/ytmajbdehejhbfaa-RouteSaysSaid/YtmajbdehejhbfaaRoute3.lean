/-
  The contracts of the routes' functions: writes split by nodes.
-/
import Derived.Test.YtmajbdehejhbfaaLaw17
namespace Go.Proofs.Ytmajbdehejhbfaa
open Go Go.RowKit

/-- The writes of node j, the node of a key told by f. -/
def rowsOf (f : Key → Int) (ws : List Write) (j : Nat) : List Write := ws.filter fun x => decide (f x.key = (j : Int))
theorem rowsOf_snoc (f : Key → Int) (ws : List Write) (i : Nat) (x : Write) (h : ws[i]? = some x) (j : Nat) : rowsOf f (ws.take (i + 1)) j = rowsOf f (ws.take i) j ++ if f x.key = (j : Int) then [x] else [] := by
  obtain ⟨hi, rfl⟩ := List.getElem?_eq_some_iff.1 h
  rw [List.take_succ_eq_append_getElem hi, rowsOf, List.filter_append, rowsOf]
  congr 1
  by_cases hk : f ws[i].key = (j : Int) <;> simp [hk]
theorem rowsOf_neg (f : Key → Int) (ws : List Write) (i : Nat) (x : Write) (h : ws[i]? = some x) (hn : f x.key < 0) (j : Nat) : rowsOf f (ws.take (i + 1)) j = rowsOf f (ws.take i) j := by
  rw [rowsOf_snoc f ws i x h j, if_neg (by omega), List.append_nil]
theorem rowsOf_at (f : Key → Int) (ws : List Write) (i : Nat) (x : Write) (h : ws[i]? = some x) (t : Nat) (ht : f x.key = (t : Int)) (j : Nat) : rowsOf f (ws.take (i + 1)) j = if j = t then rowsOf f (ws.take i) t ++ [x] else rowsOf f (ws.take i) j := by
  rw [rowsOf_snoc f ws i x h j]
  by_cases hj : j = t
  · subst hj; rw [if_pos ht, if_pos rfl]
  · rw [if_neg (by omega), if_neg hj, List.append_nil]
theorem rowsOf_le (f : Key → Int) (ws : List Write) (j : Nat) : (rowsOf f ws j).length ≤ ws.length := List.length_filter_le _ _
theorem ofI_lt (ps : List Key) (k : Key) : ofI ps k < (ps.length : Int) + 1 := by
  have := cnt_le k ps
  simp only [ofI]; split <;> omega
theorem ofI_ge (ps : List Key) (k : Key) : -1 ≤ ofI ps k := by
  simp only [ofI]; split <;> omega

theorem route_Split_ok (w : World) (b : Nat) (v u : E.Sl) (ps : List Key) (ws : List Write) (hb : w.rangeAt b 0 [v.val]) (hv : E.Rd w v 16 kl ps) (hl : ps.length ≤ 1000) (hu : E.Rd w u 18 wl ws) (hlw : ws.length ≤ 1000) :
    Calls Try.prog 18 #[.pointer (some ⟨b, 0, none⟩), u.val] w fun e w' => ∃ (o : E.Sl) (vs : List E.Sl), e = .returned o.val ∧ Ext w w' ∧ vs.length = ps.length + 1 ∧ E.Own2 w.heap.size w' o 25 64 18 wl vs (rowsOf (ofI ps) ws) := by
  have hlen := hu.1
  have hlen2 := hv.1
  refine E.calls_of_RL Try.func18 rfl Try.ntmps18 (Nat.le_of_ble_eq_true rfl) ?_
  refine E.RL_seq ?_
  refine E.RL_region ?_
  refine E.OW_val (v := .slice none 0 0) rfl (E.r_assign rfl) rfl ?_
  refine E.OW_nil ?_
  refine E.nx_normal ?_
  refine E.RL_seq ?_
  refine E.RL_region ?_
  refine E.OW_val (v := .pointer (some ⟨b, 0, none⟩)) rfl (E.r_move rfl) rfl ?_
  refine E.OW_call rfl (E.r_call Try.func20 rfl rfl (E.args1 rfl)) rfl ((route_Nodes_ok w b v ps (E.ext_range hb (E.Ext.refl _)) (hv.ext (E.Ext.refl _)) (by omega)).mono ?_)
  rintro _ w1 ⟨rfl, x2⟩
  refine ⟨_, rfl, ?_⟩
  refine E.OW_make (enc := svl) (z := E.Sl.nil) (zv := .slice none 0 0) (m := (ps.length + 1)) rfl rfl Try.underlying35 el25 (by kernel_rfl) rfl (by omega) (by omega) rfl (fun v3 w4 x5 ho6 => ?_)
  have x7 := E.Ext.trans x2 x5
  refine E.OW_val (v := v3.val) rfl (E.r_assign rfl) rfl ?_
  refine E.OW_nil ?_
  refine E.nx_normal ?_
  refine E.RL_seq ?_
  refine E.RL_seq ?_
  refine E.RL_region ?_
  refine E.OW_val (v := u.val) rfl (E.r_move rfl) rfl ?_
  refine E.OW_val (v := .int .i64 ((u.len : Nat) : Int)) rfl (E.r_len Try.underlying25 rfl) rfl ?_
  refine E.OW_val (v := .int .i64 0) rfl (E.r_move rfl) rfl ?_
  refine E.OW_nil ?_
  refine E.nx_normal ?_
  refine E.RL_block ?_
  have hmade := E.Own2.made (α := Write) (e := 64) (s := 18) (enc := wl) (E.Own.ext ho6 (E.Ext.refl _))
  refine E.RL_loopg (fun m_ (g_ : Nat × List E.Sl) ρ_ w_ => match g_ with | ⟨i, vs⟩ => m_ = ws.length - i ∧ ρ_ 0 = .pointer (some ⟨b, 0, none⟩) ∧ ρ_ 4 = .slice none 0 0 ∧ ρ_ 5 = v3.val ∧ ρ_ 12 = u.val ∧ ρ_ 13 = .int .i64 ((u.len : Nat) : Int) ∧ ρ_ 14 = .int .i64 ((i : Nat) : Int) ∧ E.Ext w1 w_ ∧ i ≤ ws.length ∧ vs.length = ps.length + 1 ∧ E.Own2 w1.heap.size w_ v3 25 64 18 wl vs (rowsOf (ofI ps) (ws.take i))) _ ((0, List.replicate (ps.length + 1) E.Sl.nil)) ⟨rfl, rfl, rfl, rfl, rfl, rfl, rfl, x5, ⟨by omega, by simp, hmade⟩⟩ ?_
  rintro _ (⟨i, vs⟩) r9 w8 ⟨rfl, e0_r9, e4_r9, e5_r9, e12_r9, e13_r9, e14_r9, x10, hinv_r9⟩
  have hinv := hinv_r9
  have x11 := E.Ext.trans x2 x10
  obtain ⟨hi, hvl, ho2⟩ := hinv
  have ho := ho2.own
  refine E.RL_seq ?_
  refine E.RL_region ?_
  refine E.OW_val (v := .bool (decide (((i : Nat) : Int) < ((u.len : Nat) : Int)))) rfl (E.r_lss e14_r9 e13_r9) rfl ?_
  refine E.OW_nil ?_
  refine E.nx_normal ?_
  refine E.RL_seq ?_
  refine E.RL_cond rfl (fun h1 => ?_) (fun h1 => ?_)
  · skip
    have h1' := of_decide_eq_true h1
    refine E.RL_skip ?_
    refine E.nx_normal ?_
    refine E.RL_seq ?_
    refine E.RL_block ?_
    refine E.RL_seq ?_
    refine E.RL_region ?_
    obtain ⟨y12, hy13⟩ : ∃ y, ws[i]? = some y := ⟨_, List.getElem?_eq_getElem (by first | omega | (have := hu.1; omega))⟩
    refine E.OW_val (v := .pointer (some ⟨u.b, u.o + i * 18, none⟩)) rfl (E.r_indexSl e12_r9 e14_r9 Try.underlying25 ts64 hu hy13) rfl ?_
    refine E.OW_val (v := .agg (wl y12).toArray) rfl (E.r_load rfl (E.ldk Try.underlying64 rfl (ts64.trans (congrArg some (wl_len _).symm)) (hu.at_ x11 hy13))) rfl ?_
    refine E.OW_alloc (z := .agg (wl zeroW).toArray) (cs := wl zeroW) (by kernel_rfl) rfl rfl (fun b14 w15 hb16 x17 hz18 hr19 ht20 => ?_)
    have x21 := E.Ext.trans x11 x17
    have x22 := E.Ext.trans x10 x17
    have ht23 : World.there w15 b14 0 18 := by rw [wl_len] at ht20; exact ht20
    refine E.OW_stk (cs := wl y12) rfl rfl rfl (ts64.trans (congrArg some (wl_len _).symm)) (wl_one _) (by rw [wl_len]; exact (E.ext_there ht23 (E.Ext.refl _))) rfl (fun w24 hs25 _ => ?_)
    have x26 := hs25.1 _ x21 (by first | omega | (have := x11.size; omega))
    have x27 := hs25.1 _ x22 (by first | omega | (have := x10.size; omega))
    have x28 := hs25.1 _ x17 (by first | omega | (have := (E.Ext.refl _).size; omega))
    have hr29 := hs25.2.2.1
    have ht30 := hs25.2.2.2.1 _ _ _ (E.ext_there ht23 (E.Ext.refl _))
    refine E.OW_nil ?_
    refine E.nx_normal ?_
    refine E.RL_seq ?_
    refine E.RL_region ?_
    refine E.OW_val (v := .pointer (some ⟨b, 0, none⟩)) rfl (E.r_move e0_r9) rfl ?_
    refine E.OW_val (v := .pointer (some ⟨b14, 0, none⟩)) rfl (E.r_field (o := 0) (k := 0) rfl fo64_0) rfl ?_
    refine E.OW_val (v := .agg (kl y12.key).toArray) rfl (E.r_load rfl (E.ldk Try.underlying24 rfl (ts24.trans (congrArg some (kl_len _).symm)) (wl_key (E.ext_range hr29 (E.Ext.refl _))))) rfl ?_
    refine E.OW_call rfl (E.r_call Try.func22 rfl rfl (E.args2 rfl rfl)) rfl ((route_Of_ok w24 b v ps y12.key (E.ext_range hb x26) (hv.ext x26) (by omega)).mono ?_)
    rintro _ w31 ⟨rfl, x32⟩
    refine ⟨_, rfl, ?_⟩
    have x33 := E.Ext.trans x26 x32
    have x34 := E.Ext.trans x27 x32
    have x35 := E.Ext.trans x28 x32
    refine E.OW_val (v := .int .i64 (ofI ps y12.key)) rfl (E.r_assign rfl) rfl ?_
    refine E.OW_nil ?_
    refine E.nx_normal ?_
    refine E.RL_seq ?_
    refine E.RL_region ?_
    refine E.OW_val (v := .int .i64 (ofI ps y12.key)) rfl (E.r_move rfl) rfl ?_
    refine E.OW_val (v := .bool (decide (0 ≤ (ofI ps y12.key)))) rfl (E.r_geq rfl rfl) rfl ?_
    refine E.OW_nil ?_
    refine E.nx_normal ?_
    refine E.RL_cond rfl (fun h2 => ?_) (fun h2 => ?_)
    · skip
      have h2' := of_decide_eq_true h2
      have hlt := ofI_lt ps y12.key
      obtain ⟨t, ht⟩ := Int.eq_ofNat_of_zero_le h2'
      have htn : t < ps.length + 1 := by omega
      rw [ht]
      refine E.RL_draw (fun w_ => E.Ext w1 w_ ∧ w_.rangeAt b14 0 (wl y12) ∧ True) (by kernel_rfl) (fuel := 11) (listed := #[false, false, false, false, false, false, false, false, false, false, false]) rfl rfl ?_
      obtain ⟨w36, x37e⟩ : ∃ y, y = World.drew w31 := ⟨_, rfl⟩
      rw [← x37e]
      have x37 : E.Ext w31 w36 := by rw [x37e]; exact E.Ext.drew _
      clear x37e
      have x38 := E.Ext.trans x33 x37
      have x39 := E.Ext.trans x34 x37
      have x40 := E.Ext.trans x35 x37
      have x41 := E.Ext.trans x32 x37
      refine E.DW_take 0 (v := v3.val) rfl (by kernel_rfl) (by kernel_rfl) (by kernel_rfl) (listed' := #[true, false, false, false, false, false, false, false, false, false, false]) rfl rfl ⟨x39, (E.ext_range hr29 x41), trivial⟩ (fun w_ hS => E.r_move e5_r9) rfl ?_
      refine E.DW_take 1 (v := .int .i64 ((t : Nat) : Int)) rfl (by kernel_rfl) (by kernel_rfl) (by kernel_rfl) (listed' := #[true, true, false, false, false, false, false, false, false, false, false]) rfl rfl ⟨x39, (E.ext_range hr29 x41), trivial⟩ (fun w_ hS => E.r_move rfl) rfl ?_
      refine E.DW_take 2 (v := v3.val) rfl (by kernel_rfl) (by kernel_rfl) (by kernel_rfl) (listed' := #[true, true, true, false, false, false, false, false, false, false, false]) rfl rfl ⟨x39, (E.ext_range hr29 x41), trivial⟩ (fun w_ hS => E.r_move e5_r9) rfl ?_
      refine E.DW_take 3 (v := .int .i64 ((t : Nat) : Int)) rfl (by kernel_rfl) (by kernel_rfl) (by kernel_rfl) (listed' := #[true, true, true, true, false, false, false, false, false, false, false]) rfl rfl ⟨x39, (E.ext_range hr29 x41), trivial⟩ (fun w_ hS => E.r_move rfl) rfl ?_
      obtain ⟨y42, hy43⟩ : ∃ y, vs[t]? = some y := ⟨_, List.getElem?_eq_getElem (by first | omega | (have := (E.Own.rd ho svl_len).1; omega))⟩
      refine E.DW_take 4 (v := .pointer (some ⟨v3.b, v3.o + t * 1, none⟩)) rfl (by kernel_rfl) (by kernel_rfl) (by kernel_rfl) (listed' := #[true, true, true, true, true, false, false, false, false, false, false]) rfl rfl ⟨x39, (E.ext_range hr29 x41), trivial⟩ (fun w_ hS => E.r_indexSl rfl rfl Try.underlying35 ts25 (E.Own.rd ho svl_len) hy43) rfl ?_
      refine E.DW_take 6 (v := .agg (wl y12).toArray) rfl (by kernel_rfl) (by kernel_rfl) (by kernel_rfl) (listed' := #[true, true, true, true, true, false, true, false, false, false, false]) rfl rfl ⟨x39, (E.ext_range hr29 x41), trivial⟩ (fun w_ hS => E.r_load rfl (E.ldk Try.underlying64 rfl (ts64.trans (congrArg some (wl_len _).symm)) hS.2.1)) rfl ?_
      have hyt := hy43
      refine E.DW_loadlit 5 7 (enc := wl) (z := y12) (vi := y42.val) (listed1 := #[true, true, true, true, true, true, true, false, false, false, false]) (listed2 := #[true, true, true, true, true, false, true, true, false, false, false]) (listed' := #[true, true, true, true, true, true, true, true, false, false, false]) rfl rfl (by kernel_rfl) rfl rfl rfl rfl (by kernel_rfl) (by kernel_rfl) rfl rfl (fun _ => rfl) rfl (fun _ => rfl) (fun w_ hw_ => E.ld1 Try.underlying25 rfl ((E.Rd.at_ (E.Own.rd ho svl_len) (E.Ext.trans x40 hw_) hyt) 0 _ rfl)) rfl Try.underlying25 el64 wl_len (by omega) rfl rfl (fun w_ hw_ => ⟨E.Ext.trans x39 hw_, E.ext_range (E.ext_range hr29 x41) hw_, trivial⟩) (fun va wa hxa hoa => ?_)
      have x44 := E.Ext.trans x38 hxa
      have x45 := E.Ext.trans x39 hxa
      have x46 := E.Ext.trans x40 hxa
      have x47 := E.Ext.trans x41 hxa
      have x48 := E.Ext.trans x37 hxa
      have hq := ho2.ext x46
      have hrow := hq.row t _ hyt
      have hrl := rowsOf_le (ofI ps) (ws.take i) t
      have hwl : (ws.take i).length ≤ ws.length := by rw [List.length_take]; omega
      refine E.DW_append 8 (base := w1.heap.size) (enc := wl) (m := [y12]) (listed' := #[true, true, true, true, true, true, true, true, true, false, false]) rfl (by kernel_rfl) rfl rfl rfl Try.underlying25 el64 wl_len (by omega) wl_one hrow (hoa.rd wl_len) (by simp only [List.length_cons, List.length_nil]; omega) x45.size rfl (fun w_ hg_ => ⟨E.ext_grown x45 hg_ (E.Own.above hrow), E.range_grown (E.ext_range hr29 x47) hg_ (E.Own.ne (ho2.row t _ hyt) (Nat.le_refl _) hb16), trivial⟩) (fun vb wb hob hgb hfb => ?_)
      have x49 := E.ext_grown x44 hgb (fun k_ hk_ => Nat.le_trans (x2.size) (E.Own.above (E.Own.ext (ho2.row t _ hyt) x46) k_ hk_))
      have x50 := E.ext_grown x45 hgb (fun k_ hk_ => Nat.le_trans (Nat.le_refl _) (E.Own.above (E.Own.ext (ho2.row t _ hyt) x46) k_ hk_))
      have hr51 := E.range_grown (E.ext_range hr29 x47) hgb (E.Own.ne (ho2.row t _ hyt) (E.Ext.refl _).size hb16)
      have ht52 := E.there_grown (E.ext_there ht30 x47) hgb (E.Own.ne (ho2.row t _ hyt) (E.Ext.refl _).size hb16)
      have hmid := hq.mid hyt hgb
      obtain ⟨y53, hy54⟩ : ∃ y, vs[t]? = some y := ⟨_, List.getElem?_eq_getElem (by first | omega | (have := (E.Own.rd ho svl_len).1; omega))⟩
      refine E.DW_take 9 (v := .pointer (some ⟨v3.b, v3.o + t * 1, none⟩)) rfl (by kernel_rfl) (by kernel_rfl) (by kernel_rfl) (listed' := #[true, true, true, true, true, true, true, true, true, true, false]) rfl rfl ⟨x50, (E.ext_range hr51 (E.Ext.refl _)), trivial⟩ (fun w_ hS => E.r_indexSl rfl rfl Try.underlying35 ts25 (E.Own.rd ho svl_len) hy54) rfl ?_
      refine E.DW_ownst1 10 (base := w1.heap.size) (enc := svl) (z := vb) (val := vb.val) (k := t) (listed' := #[true, true, true, true, true, true, true, true, true, true, true]) rfl (by kernel_rfl) rfl rfl rfl rfl ts25 rfl hmid svl_len (by omega) rfl (fun w_ hg_ => ⟨E.ext_grown x50 hg_ (E.Own.above hmid), E.range_grown (E.ext_range hr51 (E.Ext.refl _)) hg_ (E.Own.ne ho (Nat.le_refl _) hb16), trivial⟩) (fun wc hoc hgc => ?_)
      have x55 := E.ext_grown x49 hgc (fun k_ hk_ => Nat.le_trans (x2.size) (E.Own.above (E.Own.ext hmid (E.Ext.refl _)) k_ hk_))
      have x56 := E.ext_grown x50 hgc (fun k_ hk_ => Nat.le_trans (Nat.le_refl _) (E.Own.above (E.Own.ext hmid (E.Ext.refl _)) k_ hk_))
      refine E.DW_done (by kernel_rfl) ?_
      refine E.blk_normal ?_
      refine E.nx_normal ?_
      refine E.RL_region ?_
      refine E.OW_val (v := .int .i64 ((i + 1 : Nat) : Int)) rfl (E.r_add e14_r9 rfl (by rw [E.wrap_i64 (by omega) (by omega)]; omega)) rfl ?_
      refine E.OW_val (v := .int .i64 ((i + 1 : Nat) : Int)) rfl (E.r_move rfl) rfl ?_
      refine E.OW_nil ?_
      refine E.nx_normal ?_
      refine ⟨_, (i + 1, vs.set t vb), ?_, rfl, e0_r9, e4_r9, e5_r9, e12_r9, e13_r9, rfl, x56, ⟨by omega, by simp; omega, ?_⟩⟩
      omega
      exact (hq.step hyt hob hgb hfb hoc hgc).congr fun j => (rowsOf_at _ ws i _ hy13 t ht j).symm
    · skip
      have h2' := of_decide_eq_false h2
      refine E.RL_skip ?_
      refine E.blk_normal ?_
      refine E.nx_normal ?_
      refine E.RL_region ?_
      refine E.OW_val (v := .int .i64 ((i + 1 : Nat) : Int)) rfl (E.r_add e14_r9 rfl (by rw [E.wrap_i64 (by omega) (by omega)]; omega)) rfl ?_
      refine E.OW_val (v := .int .i64 ((i + 1 : Nat) : Int)) rfl (E.r_move rfl) rfl ?_
      refine E.OW_nil ?_
      refine E.nx_normal ?_
      refine ⟨_, (i + 1, vs), ?_, rfl, e0_r9, e4_r9, e5_r9, e12_r9, e13_r9, rfl, x34, ⟨by omega, hvl, ?_⟩⟩
      omega
      exact (ho2.ext x35).congr fun j => (rowsOf_neg _ ws i _ hy13 (by omega) j).symm
  · skip
    have h1' := of_decide_eq_false h1
    refine E.RL_exit ?_
    refine E.nx_exit ?_
    refine E.nx_exit ?_
    refine E.blk_eq ?_
    refine E.nx_normal ?_
    refine E.RL_seq ?_
    refine E.RL_region ?_
    refine E.OW_val (v := v3.val) rfl (E.r_move e5_r9) rfl ?_
    refine E.OW_val (v := v3.val) rfl (E.r_assign rfl) rfl ?_
    refine E.OW_nil ?_
    refine E.nx_normal ?_
    refine E.RL_ret ?_
    refine E.post_ret (E.res1 rfl) ?_
    refine ⟨_, vs, rfl, x11, hvl, ?_⟩
    rw [List.take_of_length_le (by omega)] at ho2
    exact ho2.mono (x2).size

theorem rofI_lt (ps : List Key) (k : Key) : rofI ps k < (ps.length : Int) + 1 := by
  have h : rcnt k ps ≤ ps.length := (List.takeWhile_prefix (p := fun p => decide (kcmp p k ≤ 0)) (l := ps)).length_le
  simp only [rofI]; split <;> omega
theorem rroute_Split_ok (w : World) (b : Nat) (v u : E.Sl) (ps : List Key) (ws : List Write) (hb : w.rangeAt b 0 [v.val]) (hv : E.Rd w v 16 kl ps) (hl : ps.length ≤ 1000) (hu : E.Rd w u 18 wl ws) (hlw : ws.length ≤ 1000) :
    Calls Try.prog 19 #[.pointer (some ⟨b, 0, none⟩), u.val] w fun e w' => ∃ (o : E.Sl) (vs : List E.Sl), e = .returned o.val ∧ Ext w w' ∧ vs.length = ps.length + 1 ∧ E.Own2 w.heap.size w' o 25 64 18 wl vs (rowsOf (rofI ps) ws) := by
  have hlen := hu.1
  have hlen2 := hv.1
  refine E.calls_of_RL Try.func19 rfl Try.ntmps19 (Nat.le_of_ble_eq_true rfl) ?_
  refine E.RL_seq ?_
  refine E.RL_region ?_
  refine E.OW_val (v := .slice none 0 0) rfl (E.r_assign rfl) rfl ?_
  refine E.OW_nil ?_
  refine E.nx_normal ?_
  refine E.RL_seq ?_
  refine E.RL_region ?_
  refine E.OW_val (v := .pointer (some ⟨b, 0, none⟩)) rfl (E.r_move rfl) rfl ?_
  refine E.OW_val (v := .pointer (some ⟨b, 0, none⟩)) rfl (E.r_nil rfl) rfl ?_
  refine E.OW_val (v := .pointer (some ⟨b, 0, none⟩)) rfl (E.r_field (o := 0) (k := 0) rfl fo145_0) rfl ?_
  refine E.OW_val (v := v.val) rfl (E.r_load rfl (E.ld1 Try.underlying22 rfl ((E.ext_range hb (E.Ext.refl _)) 0 _ rfl))) rfl ?_
  refine E.OW_val (v := .int .i64 ((v.len : Nat) : Int)) rfl (E.r_len Try.underlying22 rfl) rfl ?_
  refine E.OW_val (v := .int .i64 ((v.len + 1 : Nat) : Int)) rfl (E.r_add rfl rfl (by rw [E.wrap_i64 (by omega) (by omega)]; omega)) rfl ?_
  refine E.OW_make (enc := svl) (z := E.Sl.nil) (zv := .slice none 0 0) (m := (v.len + 1)) rfl rfl Try.underlying35 el25 (by kernel_rfl) rfl (by omega) (by omega) rfl (fun v1 w2 x3 ho4 => ?_)
  refine E.OW_val (v := v1.val) rfl (E.r_assign rfl) rfl ?_
  refine E.OW_nil ?_
  refine E.nx_normal ?_
  refine E.RL_seq ?_
  refine E.RL_seq ?_
  refine E.RL_region ?_
  refine E.OW_val (v := .int .i64 0) rfl (E.r_assign rfl) rfl ?_
  refine E.OW_nil ?_
  refine E.nx_normal ?_
  refine E.RL_block ?_
  have hmade := E.Own2.made (α := Write) (e := 64) (s := 18) (enc := wl) (E.Own.ext ho4 (E.Ext.refl _))
  rw [hlen2] at hmade
  refine E.RL_loopg (fun m_ (g_ : Nat × List E.Sl) ρ_ w_ => match g_ with | ⟨i, vs⟩ => m_ = ws.length - i ∧ ρ_ 0 = .pointer (some ⟨b, 0, none⟩) ∧ ρ_ 1 = u.val ∧ ρ_ 4 = .slice none 0 0 ∧ ρ_ 5 = v1.val ∧ ρ_ 6 = .int .i64 ((i : Nat) : Int) ∧ E.Ext w w_ ∧ i ≤ ws.length ∧ vs.length = ps.length + 1 ∧ E.Own2 w.heap.size w_ v1 25 64 18 wl vs (rowsOf (rofI ps) (ws.take i))) _ ((0, List.replicate (ps.length + 1) E.Sl.nil)) ⟨rfl, rfl, rfl, rfl, rfl, rfl, x3, ⟨by omega, by simp, hmade⟩⟩ ?_
  rintro _ (⟨i, vs⟩) r6 w5 ⟨rfl, e0_r6, e1_r6, e4_r6, e5_r6, e6_r6, x7, hinv_r6⟩
  have hinv := hinv_r6
  obtain ⟨hi, hvl, ho2⟩ := hinv
  have ho := ho2.own
  refine E.RL_seq ?_
  refine E.RL_seq ?_
  refine E.RL_region ?_
  refine E.OW_val (v := .int .i64 ((i : Nat) : Int)) rfl (E.r_move e6_r6) rfl ?_
  refine E.OW_val (v := u.val) rfl (E.r_move e1_r6) rfl ?_
  refine E.OW_val (v := .int .i64 ((u.len : Nat) : Int)) rfl (E.r_len Try.underlying25 rfl) rfl ?_
  refine E.OW_val (v := .bool (decide (((i : Nat) : Int) < ((u.len : Nat) : Int)))) rfl (E.r_lss rfl rfl) rfl ?_
  refine E.OW_nil ?_
  refine E.nx_normal ?_
  refine E.RL_cond rfl (fun h1 => ?_) (fun h1 => ?_)
  · skip
    have h1' := of_decide_eq_true h1
    refine E.RL_skip ?_
    refine E.nx_normal ?_
    refine E.RL_seq ?_
    refine E.RL_block ?_
    refine E.RL_seq ?_
    refine E.RL_region ?_
    refine E.OW_val (v := .pointer (some ⟨b, 0, none⟩)) rfl (E.r_move e0_r6) rfl ?_
    refine E.OW_val (v := u.val) rfl (E.r_move e1_r6) rfl ?_
    refine E.OW_val (v := .int .i64 ((i : Nat) : Int)) rfl (E.r_move e6_r6) rfl ?_
    obtain ⟨y8, hy9⟩ : ∃ y, ws[i]? = some y := ⟨_, List.getElem?_eq_getElem (by first | omega | (have := hu.1; omega))⟩
    refine E.OW_val (v := .pointer (some ⟨u.b, u.o + i * 18, none⟩)) rfl (E.r_indexSl rfl rfl Try.underlying25 ts64 hu hy9) rfl ?_
    refine E.OW_val (v := .pointer (some ⟨u.b, u.o + i * 18, none⟩)) rfl (E.r_field (o := u.o + i * 18) (k := 0) rfl fo64_0) rfl ?_
    refine E.OW_val (v := .agg (kl y8.key).toArray) rfl (E.r_load rfl (E.ldk Try.underlying24 rfl (ts24.trans (congrArg some (kl_len _).symm)) (wl_key (hu.at_ x7 hy9)))) rfl ?_
    refine E.OW_call rfl (E.r_call Try.func23 rfl rfl (E.args2 rfl rfl)) rfl ((rroute_Of_ok w5 b v ps y8.key (E.ext_range hb x7) (hv.ext x7) (by omega)).mono ?_)
    rintro _ w10 ⟨rfl, x11⟩
    refine ⟨_, rfl, ?_⟩
    have x12 := E.Ext.trans x7 x11
    refine E.OW_val (v := .int .i64 (rofI ps y8.key)) rfl (E.r_assign rfl) rfl ?_
    refine E.OW_nil ?_
    refine E.nx_normal ?_
    refine E.RL_seq ?_
    refine E.RL_region ?_
    refine E.OW_val (v := .int .i64 (rofI ps y8.key)) rfl (E.r_move rfl) rfl ?_
    refine E.OW_val (v := .bool (decide (0 ≤ (rofI ps y8.key)))) rfl (E.r_geq rfl rfl) rfl ?_
    refine E.OW_nil ?_
    refine E.nx_normal ?_
    refine E.RL_cond rfl (fun h2 => ?_) (fun h2 => ?_)
    · skip
      have h2' := of_decide_eq_true h2
      have hlt := rofI_lt ps y8.key
      obtain ⟨t, ht⟩ := Int.eq_ofNat_of_zero_le h2'
      have htn : t < ps.length + 1 := by omega
      rw [ht]
      refine E.RL_draw (fun w_ => E.Ext w w_ ∧ True) (by kernel_rfl) (fuel := 14) (listed := #[false, false, false, false, false, false, false, false, false, false, false, false, false, false]) rfl rfl ?_
      obtain ⟨w13, x14e⟩ : ∃ y, y = World.drew w10 := ⟨_, rfl⟩
      rw [← x14e]
      have x14 : E.Ext w10 w13 := by rw [x14e]; exact E.Ext.drew _
      clear x14e
      have x15 := E.Ext.trans x12 x14
      have x16 := E.Ext.trans x11 x14
      refine E.DW_take 0 (v := v1.val) rfl (by kernel_rfl) (by kernel_rfl) (by kernel_rfl) (listed' := #[true, false, false, false, false, false, false, false, false, false, false, false, false, false]) rfl rfl ⟨x15, trivial⟩ (fun w_ hS => E.r_move e5_r6) rfl ?_
      refine E.DW_take 1 (v := .int .i64 ((t : Nat) : Int)) rfl (by kernel_rfl) (by kernel_rfl) (by kernel_rfl) (listed' := #[true, true, false, false, false, false, false, false, false, false, false, false, false, false]) rfl rfl ⟨x15, trivial⟩ (fun w_ hS => E.r_move rfl) rfl ?_
      refine E.DW_take 2 (v := v1.val) rfl (by kernel_rfl) (by kernel_rfl) (by kernel_rfl) (listed' := #[true, true, true, false, false, false, false, false, false, false, false, false, false, false]) rfl rfl ⟨x15, trivial⟩ (fun w_ hS => E.r_move e5_r6) rfl ?_
      refine E.DW_take 3 (v := .int .i64 ((t : Nat) : Int)) rfl (by kernel_rfl) (by kernel_rfl) (by kernel_rfl) (listed' := #[true, true, true, true, false, false, false, false, false, false, false, false, false, false]) rfl rfl ⟨x15, trivial⟩ (fun w_ hS => E.r_move rfl) rfl ?_
      obtain ⟨y17, hy18⟩ : ∃ y, vs[t]? = some y := ⟨_, List.getElem?_eq_getElem (by first | omega | (have := (E.Own.rd ho svl_len).1; omega))⟩
      refine E.DW_take 4 (v := .pointer (some ⟨v1.b, v1.o + t * 1, none⟩)) rfl (by kernel_rfl) (by kernel_rfl) (by kernel_rfl) (listed' := #[true, true, true, true, true, false, false, false, false, false, false, false, false, false]) rfl rfl ⟨x15, trivial⟩ (fun w_ hS => E.r_indexSl rfl rfl Try.underlying35 ts25 (E.Own.rd ho svl_len) hy18) rfl ?_
      refine E.DW_take 6 (v := u.val) rfl (by kernel_rfl) (by kernel_rfl) (by kernel_rfl) (listed' := #[true, true, true, true, true, false, true, false, false, false, false, false, false, false]) rfl rfl ⟨x15, trivial⟩ (fun w_ hS => E.r_move e1_r6) rfl ?_
      refine E.DW_take 7 (v := .int .i64 ((i : Nat) : Int)) rfl (by kernel_rfl) (by kernel_rfl) (by kernel_rfl) (listed' := #[true, true, true, true, true, false, true, true, false, false, false, false, false, false]) rfl rfl ⟨x15, trivial⟩ (fun w_ hS => E.r_move e6_r6) rfl ?_
      refine E.DW_take 8 (v := .pointer (some ⟨u.b, u.o + i * 18, none⟩)) rfl (by kernel_rfl) (by kernel_rfl) (by kernel_rfl) (listed' := #[true, true, true, true, true, false, true, true, true, false, false, false, false, false]) rfl rfl ⟨x15, trivial⟩ (fun w_ hS => E.r_indexSl rfl rfl Try.underlying25 ts64 hu hy9) rfl ?_
      refine E.DW_take 9 (v := .agg (wl y8).toArray) rfl (by kernel_rfl) (by kernel_rfl) (by kernel_rfl) (listed' := #[true, true, true, true, true, false, true, true, true, true, false, false, false, false]) rfl rfl ⟨x15, trivial⟩ (fun w_ hS => E.r_load rfl (E.ldk Try.underlying64 rfl (ts64.trans (congrArg some (wl_len _).symm)) (hu.at_ hS.1 hy9))) rfl ?_
      have hyt := hy18
      refine E.DW_loadlit 5 10 (enc := wl) (z := y8) (vi := y17.val) (listed1 := #[true, true, true, true, true, true, true, true, true, true, false, false, false, false]) (listed2 := #[true, true, true, true, true, false, true, true, true, true, true, false, false, false]) (listed' := #[true, true, true, true, true, true, true, true, true, true, true, false, false, false]) rfl rfl (by kernel_rfl) rfl rfl rfl rfl (by kernel_rfl) (by kernel_rfl) rfl rfl (fun _ => rfl) rfl (fun _ => rfl) (fun w_ hw_ => E.ld1 Try.underlying25 rfl ((E.Rd.at_ (E.Own.rd ho svl_len) (E.Ext.trans x16 hw_) hyt) 0 _ rfl)) rfl Try.underlying25 el64 wl_len (by omega) rfl rfl (fun w_ hw_ => ⟨E.Ext.trans x15 hw_, trivial⟩) (fun va wa hxa hoa => ?_)
      have x19 := E.Ext.trans x15 hxa
      have x20 := E.Ext.trans x16 hxa
      have x21 := E.Ext.trans x14 hxa
      have hq := ho2.ext x20
      have hrow := hq.row t _ hyt
      have hrl := rowsOf_le (rofI ps) (ws.take i) t
      have hwl : (ws.take i).length ≤ ws.length := by rw [List.length_take]; omega
      refine E.DW_append 11 (base := w.heap.size) (enc := wl) (m := [y8]) (listed' := #[true, true, true, true, true, true, true, true, true, true, true, true, false, false]) rfl (by kernel_rfl) rfl rfl rfl Try.underlying25 el64 wl_len (by omega) wl_one hrow (hoa.rd wl_len) (by simp only [List.length_cons, List.length_nil]; omega) x19.size rfl (fun w_ hg_ => ⟨E.ext_grown x19 hg_ (E.Own.above hrow), trivial⟩) (fun vb wb hob hgb hfb => ?_)
      have x22 := E.ext_grown x19 hgb (fun k_ hk_ => Nat.le_trans (Nat.le_refl _) (E.Own.above (E.Own.ext (ho2.row t _ hyt) x20) k_ hk_))
      have hmid := hq.mid hyt hgb
      obtain ⟨y23, hy24⟩ : ∃ y, vs[t]? = some y := ⟨_, List.getElem?_eq_getElem (by first | omega | (have := (E.Own.rd ho svl_len).1; omega))⟩
      refine E.DW_take 12 (v := .pointer (some ⟨v1.b, v1.o + t * 1, none⟩)) rfl (by kernel_rfl) (by kernel_rfl) (by kernel_rfl) (listed' := #[true, true, true, true, true, true, true, true, true, true, true, true, true, false]) rfl rfl ⟨x22, trivial⟩ (fun w_ hS => E.r_indexSl rfl rfl Try.underlying35 ts25 (E.Own.rd ho svl_len) hy24) rfl ?_
      refine E.DW_ownst1 13 (base := w.heap.size) (enc := svl) (z := vb) (val := vb.val) (k := t) (listed' := #[true, true, true, true, true, true, true, true, true, true, true, true, true, true]) rfl (by kernel_rfl) rfl rfl rfl rfl ts25 rfl hmid svl_len (by omega) rfl (fun w_ hg_ => ⟨E.ext_grown x22 hg_ (E.Own.above hmid), trivial⟩) (fun wc hoc hgc => ?_)
      have x25 := E.ext_grown x22 hgc (fun k_ hk_ => Nat.le_trans (Nat.le_refl _) (E.Own.above (E.Own.ext hmid (E.Ext.refl _)) k_ hk_))
      refine E.DW_done (by kernel_rfl) ?_
      refine E.blk_normal ?_
      refine E.nx_normal ?_
      refine E.RL_region ?_
      refine E.OW_val (v := .int .i64 ((i : Nat) : Int)) rfl (E.r_move e6_r6) rfl ?_
      refine E.OW_val (v := .int .i64 ((i + 1 : Nat) : Int)) rfl (E.r_add rfl rfl (by rw [E.wrap_i64 (by omega) (by omega)]; omega)) rfl ?_
      refine E.OW_val (v := .int .i64 ((i + 1 : Nat) : Int)) rfl (E.r_assign rfl) rfl ?_
      refine E.OW_nil ?_
      refine E.nx_normal ?_
      refine ⟨_, (i + 1, vs.set t vb), ?_, rfl, e0_r6, e1_r6, e4_r6, e5_r6, rfl, x25, ⟨by omega, by simp; omega, ?_⟩⟩
      omega
      exact (hq.step hyt hob hgb hfb hoc hgc).congr fun j => (rowsOf_at _ ws i _ hy9 t ht j).symm
    · skip
      have h2' := of_decide_eq_false h2
      refine E.RL_skip ?_
      refine E.blk_normal ?_
      refine E.nx_normal ?_
      refine E.RL_region ?_
      refine E.OW_val (v := .int .i64 ((i : Nat) : Int)) rfl (E.r_move e6_r6) rfl ?_
      refine E.OW_val (v := .int .i64 ((i + 1 : Nat) : Int)) rfl (E.r_add rfl rfl (by rw [E.wrap_i64 (by omega) (by omega)]; omega)) rfl ?_
      refine E.OW_val (v := .int .i64 ((i + 1 : Nat) : Int)) rfl (E.r_assign rfl) rfl ?_
      refine E.OW_nil ?_
      refine E.nx_normal ?_
      refine ⟨_, (i + 1, vs), ?_, rfl, e0_r6, e1_r6, e4_r6, e5_r6, rfl, x12, ⟨by omega, hvl, ?_⟩⟩
      omega
      exact (ho2.ext x11).congr fun j => (rowsOf_neg _ ws i _ hy9 (by omega) j).symm
  · skip
    have h1' := of_decide_eq_false h1
    refine E.RL_exit ?_
    refine E.nx_exit ?_
    refine E.nx_exit ?_
    refine E.blk_eq ?_
    refine E.nx_normal ?_
    refine E.RL_seq ?_
    refine E.RL_region ?_
    refine E.OW_val (v := v1.val) rfl (E.r_move e5_r6) rfl ?_
    refine E.OW_val (v := v1.val) rfl (E.r_assign rfl) rfl ?_
    refine E.OW_nil ?_
    refine E.nx_normal ?_
    refine E.RL_ret ?_
    refine E.post_ret (E.res1 rfl) ?_
    refine ⟨_, vs, rfl, x7, hvl, ?_⟩
    rw [List.take_of_length_le (by omega)] at ho2
    exact ho2.mono ((E.Ext.refl _).size)
end Go.Proofs.Ytmajbdehejhbfaa
