/-
  A walk over functions from slots to values in the place of the frame's array: its rules, proved out of the kit's. Nothing of a program stands here.
-/
import Derived.WalkKit
import Derived.OrdersHeld
import Derived.Deep.MidRow
import Derived.KernelRfl
namespace Go.E
open Go

/-- What the slots hold. -/
abbrev Env := Nat → Value
def upd (ρ : Env) (d : Nat) (v : Value) : Env := fun t => cond (Nat.beq t d) v (ρ t)
def updo (ρ : Env) : Option Nat → Value → Env
  | some d, v => upd ρ d v
  | none, _ => ρ
def ev (ρ : Env) : Operand → Value
  | .tmp t => ρ t
  | .const v => v
  | .global g => .pointer (some ⟨g, 0, none⟩)
  | .func f => .func (.func f) #[] #[]
def dOK (n : Nat) : Option Nat → Bool
  | some d => Nat.blt d n
  | none => true

structure Fits (n : Nat) (a : Act) (ρ : Env) : Prop where
  size : a.tmps.size = n
  defers : a.defers = []
  at_ : ∀ t, a.tmps.getD t undef = ρ t

theorem Fits.eval {n : Nat} {a : Act} {ρ : Env} (h : Fits n a ρ) : a.eval = ev ρ := by
  funext x
  cases x <;> simp [Act.eval, ev, h.at_]

theorem Fits.put {n : Nat} {a : Act} {ρ : Env} (h : Fits n a ρ) {d : Option Nat} (hd : dOK n d = true) (v : Value) : Fits n (a.put d v) (updo ρ d v) := by
  cases d with
  | none => exact h
  | some d =>
    have hd' : d < n := by simpa [dOK] using hd
    refine ⟨by simp [Act.put, h.size], h.defers, fun t => ?_⟩
    have := h.at_ t
    simp only [Act.put, updo, upd]
    by_cases ht : t = d
    · subst ht
      have : t < a.tmps.size := by rw [h.size]; exact hd'
      simp [Array.getD, this]
    · have hb : Nat.beq t d = false := by
        cases hq : Nat.beq t d with
        | false => rfl
        | true => exact absurd (Nat.eq_of_beq_eq_true hq) ht
      rw [hb]
      simp only [cond_false]
      rw [← this]
      simp only [Array.getD_eq_getD_getElem?]
      rw [Array.getElem?_setIfInBounds_ne (Ne.symm ht)]

theorem Fits.of_args (n : Nat) (args : Array Value) (h : args.size ≤ n) :
    Fits n { tmps := args ++ Array.replicate (n - args.size) undef, defers := [] } (fun t => args.getD t undef) := by
  refine ⟨by simp; omega, rfl, fun t => ?_⟩
  simp only [Array.getD_eq_getD_getElem?]
  rw [Array.getElem?_append]
  split
  · rfl
  · rename_i hlt
    rw [Array.getElem?_eq_none (xs := args) (by omega)]
    simp only [Array.getElem?_replicate]
    split <;> rfl

/-- Whoever waits for the answer of slot d: is it wanted? -/
theorem Fits.wanted {n : Nat} {a : Act} {ρ : Env} (h : Fits n a ρ) {ops : Array Oper} {o : Oper} {j d : Nat} {b want : Bool} (hg : o.guard = some (j, want))
    (hj : (ops[j]?).bind (·.dst) = some d) (hv : ρ d = .bool b) : Region.wanted o (yielded ops a.tmps) = (b == want) := by
  have h1 : a.tmps[d]? = some (.bool b) := by
    have := h.at_ d
    rw [hv, Array.getD_eq_getD_getElem?] at this
    cases hq : a.tmps[d]? with
    | none => rw [hq] at this; simp [undef] at this
    | some v => rw [hq] at this; simpa using this
  simp only [Region.wanted, hg, yielded, hj, Option.bind_some, h1]
  cases b <;> cases want <;> rfl

/-- .. one that has not been given a bool is not waited for. -/
theorem Fits.unwanted {n : Nat} {a : Act} {ρ : Env} (h : Fits n a ρ) {ops : Array Oper} {o : Oper} {j d : Nat} {want : Bool} (hg : o.guard = some (j, want))
    (hj : (ops[j]?).bind (·.dst) = some d) (hv : ρ d = undef) : Region.wanted o (yielded ops a.tmps) = false := by
  have hne : ∀ b, a.tmps[d]? ≠ some (.bool b) := by
    intro b hq
    have := h.at_ d
    rw [hv, Array.getD_eq_getD_getElem?, hq] at this
    simp [undef] at this
  simp only [Region.wanted, hg, yielded, hj, Option.bind_some]
  rfl

/-! ### Code -/
section
variable {P : Program} {n : Nat}

def lift (n : Nat) (Q : Exit → Env → World → Prop) : Exit → Act → World → Prop := fun e a w => ∃ ρ, Fits n a ρ ∧ Q e ρ w
def RL (P : Program) (n : Nat) (c : Code) (Q : Exit → Env → World → Prop) (ρ : Env) (w : World) : Prop := ∀ a, Fits n a ρ → c.wp P (lift n Q) a w

def nx (next : Env → World → Prop) (Q : Exit → Env → World → Prop) : Exit → Env → World → Prop
  | .normal, ρ, w => next ρ w
  | e, ρ, w => Q e ρ w
def blk (id : Nat) (Q : Exit → Env → World → Prop) : Exit → Env → World → Prop
  | .exit id', ρ, w => if id' = id then Q .normal ρ w else Q (.exit id') ρ w
  | e, ρ, w => Q e ρ w

variable {Q : Exit → Env → World → Prop} {ρ : Env} {w : World}

theorem RL_seq {x y : Code} (h : RL P n x (nx (RL P n y Q) Q) ρ w) : RL P n (.seq x y) Q ρ w := fun a ha => by
  refine wp_seq (wp_mono (h a ha) fun e a' w' hq => ?_)
  obtain ⟨ρ', hf, hq⟩ := hq
  cases e with
  | normal => exact hq a' hf
  | _ => exact ⟨ρ', hf, hq⟩
theorem RL_mono {c : Code} {Q' : Exit → Env → World → Prop} (h : RL P n c Q ρ w) (hq : ∀ e ρ w, Q e ρ w → Q' e ρ w) : RL P n c Q' ρ w :=
  fun a ha => wp_mono (h a ha) fun _ _ _ ⟨ρ', hf, h'⟩ => ⟨ρ', hf, hq _ _ _ h'⟩
/-- The ways meet again. -/
theorem RL_cut {x y : Code} (M : Env → World → Prop) (h : RL P n x (nx M Q) ρ w) (hM : ∀ ρ w, M ρ w → RL P n y Q ρ w) : RL P n (.seq x y) Q ρ w :=
  RL_seq (RL_mono h fun e ρ w hq => by cases e <;> first | exact hM _ _ hq | exact hq)
theorem RL_cond {c : Operand} {x y : Code} {b : Bool} (hc : ev ρ c = .bool b) (h1 : b = true → RL P n x Q ρ w) (h2 : b = false → RL P n y Q ρ w) : RL P n (.cond c x y) Q ρ w := fun a ha =>
  wp_cond_split (t := b) (by rw [ha.eval]; exact hc) (fun h => h1 h a ha) (fun h => h2 h a ha)
theorem RL_true {c : Operand} {x y : Code} {b : Bool} (hc : ev ρ c = .bool b) (hb : b = true) (h1 : RL P n x Q ρ w) : RL P n (.cond c x y) Q ρ w :=
  RL_cond hc (fun _ => h1) (fun h => by rw [hb] at h; cases h)
theorem RL_false {c : Operand} {x y : Code} {b : Bool} (hc : ev ρ c = .bool b) (hb : b = false) (h1 : RL P n y Q ρ w) : RL P n (.cond c x y) Q ρ w :=
  RL_cond hc (fun h => by rw [hb] at h; cases h) (fun _ => h1)
theorem RL_block {id : Nat} {c : Code} (h : RL P n c (blk id Q) ρ w) : RL P n (.block id c) Q ρ w := fun a ha => by
  refine wp_block (wp_mono (h a ha) fun e a' w' hq => ?_)
  obtain ⟨ρ', hf, hq⟩ := hq
  cases e with
  | exit id' =>
    simp only [blk] at hq
    simp only [Exit.inBlock]
    split
    · rename_i he; rw [if_pos he] at hq; exact ⟨ρ', hf, hq⟩
    · rename_i he; rw [if_neg he] at hq; exact ⟨ρ', hf, hq⟩
  | _ => exact ⟨ρ', hf, hq⟩
theorem RL_skip (h : Q .normal ρ w) : RL P n .skip Q ρ w := fun _ ha => wp_skip ⟨ρ, ha, h⟩
theorem RL_exit {id : Nat} (h : Q (.exit id) ρ w) : RL P n (.exit id) Q ρ w := fun _ ha => wp_exit ⟨ρ, ha, h⟩
theorem RL_ret (h : Q .ret ρ w) : RL P n .ret Q ρ w := fun _ ha => wp_ret ⟨ρ, ha, h⟩
theorem RL_loop {c : Code} (I : Env → World → Prop) (μ : Env → World → Nat) (h₀ : I ρ w)
    (round : ∀ ρ w, I ρ w → RL P n c (nx (fun ρ' w' => I ρ' w' ∧ μ ρ' w' < μ ρ w) Q) ρ w) : RL P n (.loop c) Q ρ w := fun a ha => by
  refine Go.wp_loop (fun a w => ∃ ρ, Fits n a ρ ∧ I ρ w) (fun a w => μ (fun t => a.tmps.getD t undef) w) ⟨ρ, ha, h₀⟩ fun a₁ w₁ ⟨ρ₁, hf₁, hI⟩ => ?_
  refine wp_mono (round ρ₁ w₁ hI a₁ hf₁) fun e a' w' hq => ?_
  obtain ⟨ρ', hf, hq⟩ := hq
  cases e with
  | normal =>
    refine ⟨⟨ρ', hf, hq.1⟩, ?_⟩
    have e1 : (fun t => a'.tmps.getD t undef) = ρ' := funext hf.at_
    have e2 : (fun t => a₁.tmps.getD t undef) = ρ₁ := funext hf₁.at_
    rw [e1, e2]; exact hq.2
  | _ => exact ⟨ρ', hf, hq⟩
/-- A loop with a ghost: what the rounds carry beside slots and world, and the rounds that are left. -/
theorem RL_loopg {c : Code} {γ : Type} (I : Nat → γ → Env → World → Prop) (m0 : Nat) (g0 : γ) (h₀ : I m0 g0 ρ w)
    (round : ∀ m g ρ w, I m g ρ w → RL P n c (nx (fun ρ' w' => ∃ m' g', m' < m ∧ I m' g' ρ' w') Q) ρ w) : RL P n (.loop c) Q ρ w := fun a ha => by
  intro b k cs
  have key : ∀ m g ρ (a : Act) w, Fits n a ρ → I m g ρ w →
      ∃ e a' w', lift n Q e a' w' ∧ Arrives P (lone (b.at a (.code c :: .inLoop c :: k)) cs w) b k cs e a' w' := by
    intro m
    induction m using Nat.strongRecOn with
    | _ m ih =>
      intro g ρ a w hf hI
      obtain ⟨e, a₁, w₁, hq, harr⟩ := round m g ρ w hI a hf b (.inLoop c :: k) cs
      obtain ⟨ρ', hf', hq⟩ := hq
      cases e with
      | normal =>
        obtain ⟨m', g', hlt, hI'⟩ := hq
        obtain ⟨e₂, a₂, w₂, hq₂, harr₂⟩ := ih m' hlt g' ρ' a₁ w₁ hf' hI'
        exact ⟨e₂, a₂, w₂, hq₂, .of_steps (Steps.trans harr (.one step_inLoop)) harr₂⟩
      | exit id => exact ⟨_, a₁, w₁, ⟨ρ', hf', hq⟩, .pass (x := .inLoop c) rfl (fun _ _ => .inl (by simp)) harr⟩
      | goto l => exact ⟨_, a₁, w₁, ⟨ρ', hf', hq⟩, .pass (x := .inLoop c) rfl (fun _ _ => .inl (by simp)) harr⟩
      | ret => exact ⟨_, a₁, w₁, ⟨ρ', hf', hq⟩, .pass (x := .inLoop c) rfl (fun _ _ => .inl (by simp)) harr⟩
      | panic ch => exact ⟨_, a₁, w₁, ⟨ρ', hf', hq⟩, .pass (x := .inLoop c) rfl (fun _ _ => .inl (by simp)) harr⟩
      | outgrown => exact ⟨_, a₁, w₁, ⟨ρ', hf', hq⟩, .pass (x := .inLoop c) rfl (fun _ _ => .inl (by simp)) harr⟩
  obtain ⟨e, a', w', hq, harr⟩ := key m0 g0 ρ a w ha h₀
  exact ⟨e, a', w', hq, .of_steps (.one step_loop) harr⟩

/-! ### The call -/
def resE (fn : Func) (ρ : Env) : Sem Value := do
  let vs ← fn.results.mapM fun
    | .tmp t => pure (ρ t)
    | .cell a t => do loadVar t (← asAddr (ρ a))
  pure (if h : vs.size = 1 then vs[0] else .tuple vs)
theorem results_fits {fn : Func} {a : Act} {ρ : Env} (h : Fits n a ρ) : results fn a.tmps = resE fn ρ := by
  obtain rfl : ρ = fun t => a.tmps.getD t undef := funext fun t => (h.at_ t).symm
  rfl
def post (P : Program) (fn : Func) (R : Ending → World → Prop) : Exit → Env → World → Prop
  | .normal, ρ, w | .ret, ρ, w => ∃ v, (resE fn ρ).run P w = .ok v w ∧ R (.returned v) w
  | _, _, _ => False
theorem calls_of_RL {f : FuncId} {fn : Func} {c : Code} {args : Array Value} {R : Ending → World → Prop} (hf : P.funcs[f]? = some fn) (hb : fn.body = some c) (hn : fn.ntmps = n) (ha : args.size ≤ n)
    (h : RL P n c (post P fn R) (fun t => args.getD t undef) w) : Calls P f args w R := by
  subst hn
  refine calls_of_wp hf hb (wp_mono (h _ (Fits.of_args _ _ ha)) fun e a' w' ⟨ρ', hfit, hq⟩ => ?_)
  cases e with
  | normal => obtain ⟨v, hr, hR⟩ := hq; exact ⟨hfit.defers, v, by rw [results_fits hfit]; exact hr, hR⟩
  | ret => obtain ⟨v, hr, hR⟩ := hq; exact ⟨hfit.defers, v, by rw [results_fits hfit]; exact hr, hR⟩
  | _ => exact hq.elim
theorem post_ret {fn : Func} {R : Ending → World → Prop} {v : Value} (hr : (resE fn ρ).run P w = .ok v w) (h : R (.returned v) w) : post P fn R .ret ρ w := ⟨v, hr, h⟩
theorem post_end {fn : Func} {R : Ending → World → Prop} {v : Value} (hr : (resE fn ρ).run P w = .ok v w) (h : R (.returned v) w) : post P fn R .normal ρ w := ⟨v, hr, h⟩
theorem res1 {fn : Func} {t : Nat} (h : fn.results = #[.tmp t]) : (resE fn ρ).run P w = .ok (ρ t) w := by simp [resE, h]
theorem res0 {fn : Func} (h : fn.results = #[]) : (resE fn ρ).run P w = .ok (.tuple #[]) w := by simp [resE, h]
theorem res2 {fn : Func} {t u : Nat} (h : fn.results = #[.tmp t, .tmp u]) : (resE fn ρ).run P w = .ok (.tuple #[ρ t, ρ u]) w := by simp [resE, h]
theorem res3 {fn : Func} {t u x : Nat} (h : fn.results = #[.tmp t, .tmp u, .tmp x]) : (resE fn ρ).run P w = .ok (.tuple #[ρ t, ρ u, ρ x]) w := by simp [resE, h]

/-! ### A region in the order of the text -/
def liftN (n : Nat) (K : Env → World → Prop) : Exit → Act → World → Prop := fun e a w => e = .normal ∧ ∃ ρ, Fits n a ρ ∧ K ρ w
def OW (P : Program) (n : Nat) (ops : Array Oper) (K : Env → World → Prop) (l : List Oper) (ρ : Env) (w : World) : Prop := ∀ a, Fits n a ρ → wpList P ops (liftN n K) l a w
theorem RL_region {id : Nat} {l : List Oper} (h : OW P n l.toArray (fun ρ w => Q .normal ρ w) l ρ w) : RL P n (.region id l.toArray false) Q ρ w := fun a ha => by
  refine wp_mono (wp_region_lit (h a ha)) fun e a' w' hq => ?_
  obtain ⟨rfl, ρ', hf, hK⟩ := hq
  exact ⟨ρ', hf, hK⟩
variable {ops : Array Oper} {K : Env → World → Prop} {rest : List Oper} {o : Oper}
theorem OW_nil (h : K ρ w) : OW P n ops K [] ρ w := fun _ ha => wpList_nil ⟨rfl, ρ, ha, h⟩
theorem OW_val {v : Value} {w' : World} (hg : o.guard = none) (hr : (execOp (ev ρ) o).run P w = .ok (.value v) w') (hd : dOK n o.dst = true) (h : OW P n ops K rest (updo ρ o.dst v) w') : OW P n ops K (o :: rest) ρ w := fun a ha =>
  wpList_plain hg fun K' hK' => by unfold Oper.wp; rw [ha.eval, hr]; exact hK' _ _ (h _ (ha.put hd v))
theorem OW_skip {w' : World} (hg : o.guard = none) (hr : (execOp (ev ρ) o).run P w = .ok .skip w') (hd : dOK n o.dst = true) (h : OW P n ops K rest (updo ρ o.dst undef) w') : OW P n ops K (o :: rest) ρ w := fun a ha =>
  wpList_plain hg fun K' hK' => by unfold Oper.wp; rw [ha.eval, hr]; exact hK' _ _ (h _ (ha.put hd undef))
theorem OW_call {f : FuncId} {args : Array Value} {w' : World} (hg : o.guard = none) (hr : (execOp (ev ρ) o).run P w = .ok (.enter f args) w') (hd : dOK n o.dst = true)
    (h : Calls P f args w' fun e w'' => ∃ v, e = .returned v ∧ OW P n ops K rest (updo ρ o.dst v) w'') : OW P n ops K (o :: rest) ρ w := fun a ha =>
  wpList_plain hg fun K' hK' => by
    unfold Oper.wp
    rw [ha.eval, hr]
    exact h.mono fun e w'' ⟨v, he, hk⟩ => by subst he; exact hK' _ _ (hk _ (ha.put hd v))
/-- A guarded operation that is carried out. -/
theorem OW_yes {j d : Nat} {b want : Bool} (hg : o.guard = some (j, want)) (hj : (ops[j]?).bind (·.dst) = some d) (hv : ρ d = .bool b) (hb : b = want)
    (h : OW P n ops K ({ o with guard := none } :: rest) ρ w) : OW P n ops K (o :: rest) ρ w := fun a ha => by
  have hw : Region.wanted o (yielded ops a.tmps) = true := by rw [ha.wanted hg hj hv]; simp [hb]
  have h1 := h a ha
  unfold wpList at h1 ⊢
  rw [if_pos hw]
  rw [if_pos (by rfl)] at h1
  exact h1
theorem OW_no {j d : Nat} {b want : Bool} (hg : o.guard = some (j, want)) (hj : (ops[j]?).bind (·.dst) = some d) (hv : ρ d = .bool b) (hb : b = !want) (hd : dOK n o.dst = true)
    (h : OW P n ops K rest (updo ρ o.dst undef) w) : OW P n ops K (o :: rest) ρ w := fun a ha => by
  have hw : Region.wanted o (yielded ops a.tmps) = false := by rw [ha.wanted hg hj hv]; subst hb; cases want <;> rfl
  unfold wpList
  rw [if_neg (by rw [hw]; simp)]
  exact h _ (ha.put hd undef)

theorem OW_nou {j d : Nat} {want : Bool} (hg : o.guard = some (j, want)) (hj : (ops[j]?).bind (·.dst) = some d) (hv : ρ d = undef) (hd : dOK n o.dst = true)
    (h : OW P n ops K rest (updo ρ o.dst undef) w) : OW P n ops K (o :: rest) ρ w := fun a ha => by
  have hw : Region.wanted o (yielded ops a.tmps) = false := ha.unwanted hg hj hv
  unfold wpList
  rw [if_neg (by rw [hw]; simp)]
  exact h _ (ha.put hd undef)

/-! ### A region that draws its order -/
def DW (P : Program) (n : Nat) (ops : Array Oper) (S : World → Prop) (K : Env → World → Prop) (fuel : Nat) (listed : Array Bool) (ρ : Env) (w : World) : Prop :=
  ∀ a, Fits n a ρ → wpAnyH P .any ops (liftN n K) S fuel listed a w
theorem RL_draw {id : Nat} (S : World → Prop) (hm : P.follows .mixedOrders = true) {fuel : Nat} {listed : Array Bool} (hf : fuel = ops.size) (hl : listed = Array.replicate ops.size false)
    (h : DW P n ops S (fun ρ w => Q .normal ρ w) fuel listed ρ w.drew) : RL P n (.region id ops true) Q ρ w := fun a ha => by
  subst hf; subst hl
  refine wp_mono (wp_region_held (S := S) hm (h a ha)) fun e a' w' hq => ?_
  obtain ⟨rfl, ρ', hfit, hK⟩ := hq
  exact ⟨ρ', hfit, hK⟩
variable {S : World → Prop} {fuel : Nat} {listed listed' : Array Bool}
theorem DW_done (hr : Region.ready .any ops listed = []) (h : K ρ w) : DW P n ops S K fuel listed ρ w := fun _ ha => wpAnyH_done hr ⟨rfl, ρ, ha, h⟩ _
theorem DW_take (i : Nat) {v : Value} (hi : ops[i]? = some o) (hs : Region.noSelect ops = true) (hf : Region.free .any ops listed i = true) (hr : (Region.ready .any ops listed).contains i = true)
    (hl : listed.setIfInBounds i true = listed') (hg : o.guard = none) (hS : S w) (hy : ∀ w, S w → (execOp (ev ρ) o).run P w = .ok (.value v) w) (hd : dOK n o.dst = true)
    (h : DW P n ops S K fuel listed' (updo ρ o.dst v) w) : DW P n ops S K (fuel + 1) listed ρ w := fun a ha =>
  wpAnyH_take hi hs hf hr (fun _ _ _ h => by cases h.1) (.inl ⟨by simp [Region.wanted, hg], by rw [ha.eval]; exact hy⟩) hS (hl ▸ h _ (ha.put hd v))
/-- .. a guarded one that is carried out. -/
theorem DW_takeg (i : Nat) {v : Value} {j d : Nat} {b want : Bool} (hi : ops[i]? = some o) (hs : Region.noSelect ops = true) (hf : Region.free .any ops listed i = true) (hr : (Region.ready .any ops listed).contains i = true)
    (hl : listed.setIfInBounds i true = listed') (hg : o.guard = some (j, want)) (hj : (ops[j]?).bind (·.dst) = some d) (hv : ρ d = .bool b) (hb : b = want) (hS : S w)
    (hy : ∀ w, S w → (execOp (ev ρ) o).run P w = .ok (.value v) w) (hd : dOK n o.dst = true)
    (h : DW P n ops S K fuel listed' (updo ρ o.dst v) w) : DW P n ops S K (fuel + 1) listed ρ w := fun a ha =>
  wpAnyH_take hi hs hf hr (fun _ _ _ h => by cases h.1) (.inl ⟨by rw [ha.wanted hg hj hv]; simp [hb], by rw [ha.eval]; exact hy⟩) hS (hl ▸ h _ (ha.put hd v))
/-- .. a guarded one that is not. -/
theorem DW_no (i : Nat) {j d : Nat} {b want : Bool} (hi : ops[i]? = some o) (hs : Region.noSelect ops = true) (hf : Region.free .any ops listed i = true) (hr : (Region.ready .any ops listed).contains i = true)
    (hl : listed.setIfInBounds i true = listed') (hg : o.guard = some (j, want)) (hj : (ops[j]?).bind (·.dst) = some d) (hv : ρ d = .bool b) (hb : b = !want) (hS : S w) (hd : dOK n o.dst = true)
    (h : DW P n ops S K fuel listed' (updo ρ o.dst undef) w) : DW P n ops S K (fuel + 1) listed ρ w := fun a ha =>
  wpAnyH_take hi hs hf hr (fun _ _ _ h => by cases h.1) (.inr ⟨by rw [ha.wanted hg hj hv]; subst hb; cases want <;> rfl, rfl⟩) hS (hl ▸ h _ (ha.put hd undef))

theorem DW_nou (i : Nat) {j d : Nat} {want : Bool} (hi : ops[i]? = some o) (hs : Region.noSelect ops = true) (hf : Region.free .any ops listed i = true) (hr : (Region.ready .any ops listed).contains i = true)
    (hl : listed.setIfInBounds i true = listed') (hg : o.guard = some (j, want)) (hj : (ops[j]?).bind (·.dst) = some d) (hv : ρ d = undef) (hS : S w) (hd : dOK n o.dst = true)
    (h : DW P n ops S K fuel listed' (updo ρ o.dst undef) w) : DW P n ops S K (fuel + 1) listed ρ w := fun a ha =>
  wpAnyH_take hi hs hf hr (fun _ _ _ h => by cases h.1) (.inr ⟨ha.unwanted hg hj hv, rfl⟩) hS (hl ▸ h _ (ha.put hd undef))
theorem wanted_want {a : Act} {j d : Nat} {b want : Bool} (ha : Fits n a ρ) (hw : o.guard = none ∨ (o.guard = some (j, want) ∧ (ops[j]?).bind (·.dst) = some d ∧ ρ d = .bool b ∧ b = want)) : Region.wanted o (yielded ops a.tmps) = true := by
  rcases hw with hg | ⟨hg, hj, hv, hb⟩
  · simp [Region.wanted, hg]
  · rw [ha.wanted hg hj hv]; simp [hb]
/-- The one that may come up is carried out: it hands back a value. -/
theorem DW_val (i : Nat) {v : Value} {w' : World} {j d : Nat} {b want : Bool} (hi : ops[i]? = some o) (hr : Region.ready .any ops listed = [i]) (hl : listed.setIfInBounds i true = listed')
    (hw : o.guard = none ∨ (o.guard = some (j, want) ∧ (ops[j]?).bind (·.dst) = some d ∧ ρ d = .bool b ∧ b = want))
    (he : (execOp (ev ρ) o).run P w = .ok (.value v) w') (hd : dOK n o.dst = true) (hS : S w') (h : DW P n ops S K fuel listed' (updo ρ o.dst v) w') : DW P n ops S K (fuel + 1) listed ρ w := fun a ha => by
  refine wpAnyH_all hr (by simp) fun k hk => ?_
  obtain rfl : k = i := by simpa using hk
  unfold wpOp
  simp only [hi, wanted_want ha hw, if_true]
  refine .inl ?_
  unfold Oper.wp
  rw [ha.eval, he]
  exact ⟨hS, hl ▸ h _ (ha.put hd v)⟩
/-- Two may come up, the one hands back the same in both worlds. -/
theorem DW_pair (i j : Nat) {oi oj : Oper} {vi vj : Value} {w' : World} {listed1 listed2 : Array Bool} (hi : ops[i]? = some oi) (hj : ops[j]? = some oj) (hr : Region.ready .any ops listed = [i, j])
    (hl1 : listed.setIfInBounds i true = listed1) (hl2 : listed.setIfInBounds j true = listed2) (hl3 : listed1.setIfInBounds j true = listed') (hl4 : listed2.setIfInBounds i true = listed')
    (hri : Region.ready .any ops listed1 = [j]) (hrj : Region.ready .any ops listed2 = [i]) (gi : oi.guard = none) (gj : oj.guard = none)
    (hei : (execOp (ev ρ) oi).run P w = .ok (.value vi) w) (hej : (execOp (ev (updo ρ oi.dst vi)) oj).run P w = .ok (.value vj) w')
    (hej' : (execOp (ev ρ) oj).run P w = .ok (.value vj) w') (hei' : (execOp (ev (updo ρ oj.dst vj)) oi).run P w' = .ok (.value vi) w')
    (hdi : dOK n oi.dst = true) (hdj : dOK n oj.dst = true) (hne : updo (updo ρ oi.dst vi) oj.dst vj = updo (updo ρ oj.dst vj) oi.dst vi) (hS : S w) (hS' : S w')
    (h : DW P n ops S K fuel listed' (updo (updo ρ oi.dst vi) oj.dst vj) w') : DW P n ops S K (fuel + 2) listed ρ w := fun a ha => by
  refine wpAnyH_all hr (by simp) fun k hk => ?_
  simp only [List.mem_cons, List.not_mem_nil, or_false] at hk
  rcases hk with rfl | rfl
  · unfold wpOp
    simp only [hi, wanted_want (ops := ops) (j := 0) (d := 0) (b := true) (want := true) ha (.inl gi), if_true]
    refine .inl ?_
    unfold Oper.wp
    rw [ha.eval, hei]
    exact ⟨hS, hl1 ▸ DW_val (K := K) (fuel := fuel) (listed' := listed') j (j := 0) (d := 0) (b := true) (want := true) hj hri hl3 (.inl gj) hej hdj hS' h _ (ha.put hdi vi)⟩
  · unfold wpOp
    simp only [hj, wanted_want (ops := ops) (j := 0) (d := 0) (b := true) (want := true) ha (.inl gj), if_true]
    refine .inl ?_
    unfold Oper.wp
    rw [ha.eval, hej']
    exact ⟨hS', hl2 ▸ DW_val (K := K) (fuel := fuel) (listed' := listed') i (j := 0) (d := 0) (b := true) (want := true) hi hrj hl4 (.inl gi) hei' hdi hS' (hne ▸ h) _ (ha.put hdj vj)⟩
theorem DW_skip (i : Nat) {w' : World} {j d : Nat} {b want : Bool} (hi : ops[i]? = some o) (hr : Region.ready .any ops listed = [i]) (hl : listed.setIfInBounds i true = listed')
    (hw : o.guard = none ∨ (o.guard = some (j, want) ∧ (ops[j]?).bind (·.dst) = some d ∧ ρ d = .bool b ∧ b = want))
    (he : (execOp (ev ρ) o).run P w = .ok .skip w') (hd : dOK n o.dst = true) (hS : S w') (h : DW P n ops S K fuel listed' (updo ρ o.dst undef) w') : DW P n ops S K (fuel + 1) listed ρ w := fun a ha => by
  refine wpAnyH_all hr (by simp) fun k hk => ?_
  obtain rfl : k = i := by simpa using hk
  unfold wpOp
  simp only [hi, wanted_want ha hw, if_true]
  refine .inl ?_
  unfold Oper.wp
  rw [ha.eval, he]
  exact ⟨hS, hl ▸ h _ (ha.put hd undef)⟩
theorem DW_call (i : Nat) {f : FuncId} {args : Array Value} {w' : World} {j d : Nat} {b want : Bool} (hi : ops[i]? = some o) (hr : Region.ready .any ops listed = [i]) (hl : listed.setIfInBounds i true = listed')
    (hw : o.guard = none ∨ (o.guard = some (j, want) ∧ (ops[j]?).bind (·.dst) = some d ∧ ρ d = .bool b ∧ b = want))
    (he : (execOp (ev ρ) o).run P w = .ok (.enter f args) w') (hd : dOK n o.dst = true)
    (h : Calls P f args w' fun e w'' => ∃ v, e = .returned v ∧ S w'' ∧ DW P n ops S K fuel listed' (updo ρ o.dst v) w'') : DW P n ops S K (fuel + 1) listed ρ w := fun a ha => by
  refine wpAnyH_all hr (by simp) fun k hk => ?_
  obtain rfl : k = i := by simpa using hk
  unfold wpOp
  simp only [hi, wanted_want ha hw, if_true]
  refine .inl ?_
  unfold Oper.wp
  rw [ha.eval, he]
  exact h.mono fun e w'' ⟨v, he, hS, hk⟩ => by subst he; exact ⟨hS, hl ▸ hk _ (ha.put hd v)⟩
end
end Go.E
namespace Go.E
open Go
section
variable {P : Program} {n : Nat} {Q : Exit → Env → World → Prop} {next : Env → World → Prop} {ρ : Env} {w : World}
theorem nx_normal (h : next ρ w) : nx next Q .normal ρ w := h
theorem nx_exit {id : Nat} (h : Q (.exit id) ρ w) : nx next Q (.exit id) ρ w := h
theorem nx_ret (h : Q .ret ρ w) : nx next Q .ret ρ w := h
theorem blk_normal {id : Nat} (h : Q .normal ρ w) : blk id Q .normal ρ w := h
theorem blk_ret {id : Nat} (h : Q .ret ρ w) : blk id Q .ret ρ w := h
theorem blk_eq {id : Nat} (h : Q .normal ρ w) : blk id Q (.exit id) ρ w := by simp only [blk, if_true]; exact h
theorem blk_ne {id id' : Nat} (hne : Nat.beq id' id = false) (h : Q (.exit id') ρ w) : blk id Q (.exit id') ρ w := by
  have : id' ≠ id := fun e => by subst e; simp at hne
  simp only [blk, if_neg this]; exact h
theorem res_c1 {fn : Func} {a t u : Nat} {p : Addr} {v : Value} (h : fn.results = #[.cell a t, .tmp u]) (ha : ρ a = .pointer (some p)) (hl : (loadVar t p).run P w = .ok v w) : (resE fn ρ).run P w = .ok (.tuple #[v, ρ u]) w := by
  simp [resE, h, ha, asAddr, hl]
theorem res_c {fn : Func} {a t : Nat} {p : Addr} {v : Value} (h : fn.results = #[.cell a t]) (ha : ρ a = .pointer (some p)) (hl : (loadVar t p).run P w = .ok v w) : (resE fn ρ).run P w = .ok v w := by
  simp [resE, h, ha, asAddr, hl]
end

/-! ### Worlds -/
open Go.RowKit
/-- w' is w with new blocks beside. -/
abbrev Ext (w w' : World) : Prop := Below w.heap.size w w'
theorem Ext.refl (w : World) : Ext w w := Below.refl _ _
theorem Ext.trans {a b c : World} (h : Ext a b) (k : Ext b c) : Ext a c := Below.trans h (Below.mono k h.size)
theorem Ext.drew (w : World) : Ext w w.drew := (Below.refl _ _).drew
theorem ext_alloc (w : World) (o : Obj) : Ext w (w.alloc o) := (Below.refl _ _).alloc (Nat.le_refl _) o
theorem ext_cell {w w' : World} {p : Addr} {v : Value} (hc : w.cell? p = some v) (h : Ext w w') : w'.cell? p = some v :=
  (h.cell (World.block_lt_of_cell? w p hc)).trans hc
theorem ext_range {w w' : World} {b o : Nat} {cs : List Value} (hr : w.rangeAt b o cs) (h : Ext w w') : w'.rangeAt b o cs := fun j v hj => ext_cell (hr j v hj) h
theorem ext_heap {w w' : World} {b : Nat} {o : Obj} (hr : w.heap[b]? = some o) (h : Ext w w') : w'.heap[b]? = some o :=
  (h.block b (Array.getElem?_eq_some_iff.1 hr).1).trans hr
/-- Cells that are there and may be written. -/
theorem ext_there {w w' : World} {b o n : Nat} (hr : w.there b o n) (h : Ext w w') : w'.there b o n := by
  intro j hj
  obtain ⟨h1, h2⟩ := hr j hj
  obtain ⟨v, hv⟩ := Option.isSome_iff_exists.1 h1
  have hb := World.block_lt_of_cell? w _ hv
  exact ⟨by rw [ext_cell hv h]; rfl, (h.frozen hb).trans h2⟩
section
variable {P : Program} {n : Nat} {ops : Array Oper} {K : Env → World → Prop} {rest : List Oper} {ρ : Env} {w : World} {d : Option Tmp} {ty : TypeId} {ps : String} {af : Array Edge}
/-- A parameter's own place in memory. -/
theorem OW_box {x : Operand} {t : TypeId} {v : Value} {cs : List Value} (hx : ev ρ x = v) (hcs : v.cells = cs.toArray) (hd : dOK n d = true)
    (h : ∀ b w', b = w.heap.size → Ext w w' → w'.heap.size = b + 1 → w'.rangeAt b 0 cs → w'.there b 0 cs.length → OW P n ops K rest (updo ρ d (.pointer (some ⟨b, 0, none⟩))) w') : OW P n ops K (⟨d, .box t x, ty, ps, af, none⟩ :: rest) ρ w := by
  refine OW_val (v := .pointer (some ⟨w.heap.size, 0, none⟩)) (w' := w.alloc (.cells v.cells t)) rfl (by subst hx; rfl) hd (h _ _ rfl (ext_alloc _ _) (by simp) ?_ ?_)
  · intro j u hj
    rw [Nat.zero_add, World.cell?_alloc_at _ _ _ _ rfl, hcs]; simpa using hj
  · intro j hj
    rw [Nat.zero_add, World.cell?_alloc_at _ _ _ _ rfl, hcs]
    exact ⟨by simp [hj], World.frozen?_alloc_at _ _ _ _ (by simp)⟩
theorem OW_alloc {t : TypeId} {z : Value} {cs : List Value} (hz : (P.info? t).map (·.zero) = some (some z)) (hcs : z.cells = cs.toArray) (hd : dOK n d = true)
    (h : ∀ b w', b = w.heap.size → Ext w w' → w'.heap.size = b + 1 → w'.rangeAt b 0 cs → w'.there b 0 cs.length → OW P n ops K rest (updo ρ d (.pointer (some ⟨b, 0, none⟩))) w') : OW P n ops K (⟨d, .alloc t, ty, ps, af, none⟩ :: rest) ρ w := by
  refine OW_val (v := .pointer (some ⟨w.heap.size, 0, none⟩)) (w' := w.alloc (.cells z.cells t)) rfl ?_ hd (h _ _ rfl (ext_alloc _ _) (by simp) ?_ ?_)
  · cases hq : P.info? t with
    | none => simp [hq] at hz
    | some i =>
      have hs : i.zero = some z := by simpa [hq] using hz
      simp [execOp, Instr.alloc, zeroValue, typeInfo, hq, hs, newVar, newRow]
  · intro j u hj
    rw [Nat.zero_add, World.cell?_alloc_at _ _ _ _ rfl, hcs]; simpa using hj
  · intro j hj
    rw [Nat.zero_add, World.cell?_alloc_at _ _ _ _ rfl, hcs]
    exact ⟨by simp [hj], World.frozen?_alloc_at _ _ _ _ (by simp)⟩
end
/-- Stores into a block that is younger than w0. -/
theorem ext_setCells {w0 : World} {b : Nat} (hb : w0.heap.size ≤ b) : ∀ (cs : List Value) (o : Nat) (w : World), Ext w0 w → Ext w0 (w.setCells b o cs)
  | [], _, _, h => h
  | c :: cs, o, _, h => ext_setCells hb cs (o + 1) _ (Below.setCell h (p := ⟨b, o, none⟩) hb c)
theorem size_setCells (b : Nat) : ∀ (cs : List Value) (o : Nat) (w : World), (w.setCells b o cs).heap.size = w.heap.size
  | [], _, _ => rfl
  | c :: cs, o, w => (size_setCells b cs (o + 1) _).trans (by simp [World.setCell])
section
variable {P : Program} {n : Nat} {ops : Array Oper} {K : Env → World → Prop} {rest : List Oper} {ρ : Env} {w : World} {d : Option Tmp} {ty : TypeId} {ps : String} {af : Array Edge}
/-- What is known behind a store of the cells cs into block b at o. -/
def Stored (w : World) (b o : Nat) (cs : List Value) (w' : World) : Prop :=
  (∀ w0, Ext w0 w → w0.heap.size ≤ b → Ext w0 w') ∧ w'.heap.size = w.heap.size ∧ w'.rangeAt b o cs ∧ (∀ b' o' m, w.there b' o' m → w'.there b' o' m) ∧
  (∀ b' o' cs', (b' ≠ b ∨ o' + cs'.length ≤ o ∨ o + cs.length ≤ o') → w.rangeAt b' o' cs' → w'.rangeAt b' o' cs')
theorem stored (w : World) (b o : Nat) (cs : List Value) (ht : w.there b o cs.length) : Stored w b o cs (w.setCells b o cs) :=
  ⟨fun _ h hb => ext_setCells hb cs o w h, size_setCells _ _ _ _, World.rangeAt_setCells_same w b o cs ht, fun _ _ _ h => World.there_setCells h b o cs,
    fun _ _ _ hap h => World.rangeAt_setCells_apart h b o cs hap⟩
theorem OW_stk {x y : Operand} {t : TypeId} {b o : Nat} {v : Value} {cs : List Value} (hx : ev ρ x = .pointer (some ⟨b, o, none⟩)) (hy : ev ρ y = v) (hv : v = .agg cs.toArray)
    (hi : (P.info? t).map (·.size) = some cs.length) (h1 : ∀ v ∈ cs, v.oneCell' = true) (ht : w.there b o cs.length) (hd : dOK n d = true)
    (h : ∀ w', Stored w b o cs w' → w' = w.setCells b o cs → OW P n ops K rest (updo ρ d undef) w') : OW P n ops K (⟨d, .store t x y, ty, ps, af, none⟩ :: rest) ρ w := by
  subst hv
  refine OW_skip (w' := w.setCells b o cs) rfl ?_ hd (h _ (stored w b o cs ht) rfl)
  have := run_storeVar_mid (P := P) w b o t cs.toArray (by simpa using ht) (by simpa using hi) (by simpa using h1)
  simp [execOp, hx, hy, Instr.storeAt, Instr.sureAddr] at this ⊢
  simp [this]
theorem OW_st1 {x y : Operand} {t : TypeId} {b o : Nat} {v : Value} (hx : ev ρ x = .pointer (some ⟨b, o, none⟩)) (hy : ev ρ y = v)
    (hi : (P.info? t).map (·.size) = some 1) (h1 : v.oneCell' = true) (ht : w.there b o 1) (hd : dOK n d = true)
    (h : ∀ w', Stored w b o [v] w' → w' = w.setCells b o [v] → OW P n ops K rest (updo ρ d undef) w') : OW P n ops K (⟨d, .store t x y, ty, ps, af, none⟩ :: rest) ρ w := by
  refine OW_skip (w' := w.setCells b o [v]) rfl ?_ hd (h _ (stored w b o [v] ht) rfl)
  obtain ⟨hs, hf⟩ := ht 0 (by omega)
  obtain ⟨u, hu⟩ := Option.isSome_iff_exists.1 hs
  cases hq : P.info? t with
  | none => simp [hq] at hi
  | some i =>
    have hs : i.size = 1 := by simpa [hq] using hi
    have hcs : v.cells = #[v] := by cases v <;> simp_all [Value.cells, Value.oneCell']
    have ha : (⟨b, o, none⟩ : Addr).add 0 = ⟨b, o, none⟩ := by simp [Addr.add]
    have hst : (Go.store ⟨b, o, none⟩ v).run P w = .ok () (w.setCell ⟨b, o, none⟩ v) := by rw [run_store P w _ v _ h1]; simp at hu hf; simp [hu, hf]
    simp [execOp, hx, hy, Instr.storeAt, Instr.sureAddr, storeVar, Go.sizeOf, typeInfo, hq, hs, hcs, storeCells, ha, hst, World.setCells]
end

/-! ### Slices -/
structure Sl where
  p : Option Addr
  len : Nat
  cap : Nat
abbrev Sl.val (v : Sl) : Value := .slice v.p v.len v.cap
def Sl.b (v : Sl) : Nat := (v.p.map (·.block)).getD 0
def Sl.o (v : Sl) : Nat := (v.p.map (·.off)).getD 0
def Sl.nil : Sl := ⟨none, 0, 0⟩
/-- A slice's elements, of s cells each, are encoded so. -/
def Rd {α : Type} (w : World) (v : Sl) (s : Nat) (enc : α → List Value) (l : List α) : Prop :=
  v.len = l.length ∧ ∀ i x, l[i]? = some x → v.p = some ⟨v.b, v.o, none⟩ ∧ w.rangeAt v.b (v.o + i * s) (enc x)
theorem Rd.ext {α : Type} {w w' : World} {v : Sl} {s : Nat} {enc : α → List Value} {l : List α} (h : Rd w v s enc l) (hx : Ext w w') : Rd w' v s enc l :=
  ⟨h.1, fun i x hi => ⟨(h.2 i x hi).1, ext_range (h.2 i x hi).2 hx⟩⟩
theorem Rd.at_ {α : Type} {w w' : World} {v : Sl} {s : Nat} {enc : α → List Value} {l : List α} {i : Nat} {x : α} (h : Rd w v s enc l) (hx : Ext w w') (hi : l[i]? = some x) : w'.rangeAt v.b (v.o + i * s) (enc x) := ext_range (h.2 i x hi).2 hx
theorem Rd.nil {α : Type} (w : World) (s : Nat) (enc : α → List Value) : Rd w Sl.nil s enc [] := ⟨rfl, fun i x h => by simp at h⟩
theorem r_indexSl {α : Type} {P : Program} {ρ : Env} {w w0 : World} {d : Option Tmp} {ty : TypeId} {ps : String} {af : Array Edge} {g : Option (Nat × Bool)} {x ix : Operand} {t e s : Nat} {k : IntKind} {v : Sl} {enc : α → List Value} {l : List α} {i : Nat} {y : α}
    (h : ev ρ x = v.val) (hi : ev ρ ix = .int k i) (hu : P.underlying t = some (.slice e)) (hs : (P.info? e).map (·.size) = some s) (hr : Rd w0 v s enc l) (hy : l[i]? = some y) :
    (execOp (ev ρ) ⟨d, .indexAddr t x ix, ty, ps, af, g⟩).run P w = .ok (.value (.pointer (some ⟨v.b, v.o + i * s, none⟩))) w := by
  have hlt : i < v.len := by rw [hr.1]; exact (List.getElem?_eq_some_iff.1 hy).1
  cases hq : P.info? e with
  | none => simp [hq] at hs
  | some q =>
    have hs' : q.size = s := by simpa [hq] using hs
    have hp := (hr.2 i y hy).1
    rw [Sl.val, hp] at h
    simp [execOp, h, hi, Instr.indexAt, asIntOf, run_underlying hu, Go.sizeOf, typeInfo, hq, hs', Addr.add_mid, hlt]
theorem bool_cases (b : Bool) : b = true ∨ b = false := by cases b <;> simp
section
variable {ρ : Env} {x1 x2 x3 x4 x5 x6 : Operand} {v1 v2 v3 v4 v5 v6 : Value}
theorem args0 : (#[] : Array Operand).map (ev ρ) = #[] := by simp
theorem args1 (h1 : ev ρ x1 = v1) : #[x1].map (ev ρ) = #[v1] := by simp [h1]
theorem args2 (h1 : ev ρ x1 = v1) (h2 : ev ρ x2 = v2) : #[x1, x2].map (ev ρ) = #[v1, v2] := by simp [h1, h2]
theorem args3 (h1 : ev ρ x1 = v1) (h2 : ev ρ x2 = v2) (h3 : ev ρ x3 = v3) : #[x1, x2, x3].map (ev ρ) = #[v1, v2, v3] := by simp [h1, h2, h3]
theorem args4 (h1 : ev ρ x1 = v1) (h2 : ev ρ x2 = v2) (h3 : ev ρ x3 = v3) (h4 : ev ρ x4 = v4) : #[x1, x2, x3, x4].map (ev ρ) = #[v1, v2, v3, v4] := by simp [h1, h2, h3, h4]
theorem args5 (h1 : ev ρ x1 = v1) (h2 : ev ρ x2 = v2) (h3 : ev ρ x3 = v3) (h4 : ev ρ x4 = v4) (h5 : ev ρ x5 = v5) : #[x1, x2, x3, x4, x5].map (ev ρ) = #[v1, v2, v3, v4, v5] := by simp [h1, h2, h3, h4, h5]
theorem args6 (h1 : ev ρ x1 = v1) (h2 : ev ρ x2 = v2) (h3 : ev ρ x3 = v3) (h4 : ev ρ x4 = v4) (h5 : ev ρ x5 = v5) (h6 : ev ρ x6 = v6) : #[x1, x2, x3, x4, x5, x6].map (ev ρ) = #[v1, v2, v3, v4, v5, v6] := by simp [h1, h2, h3, h4, h5, h6]
end
theorem r_indexA1 {P : Program} {ρ : Env} {w : World} {d : Option Tmp} {ty : TypeId} {ps : String} {af : Array Edge} {g : Option (Nat × Bool)} {x ix : Operand} {t e b o len i : Nat} {k : IntKind}
    (h : ev ρ x = .pointer (some ⟨b, o, none⟩)) (hi : ev ρ ix = .int k i) (hu : P.underlying t = some (.array len e)) (hs : (P.info? e).map (·.size) = some 1) (h1 : i < len) :
    (execOp (ev ρ) ⟨d, .indexAddr t x ix, ty, ps, af, g⟩).run P w = .ok (.value (.pointer (some ⟨b, o + i, none⟩))) w := by
  cases hq : P.info? e with
  | none => simp [hq] at hs
  | some q =>
    have hs' : q.size = 1 := by simpa [hq] using hs
    simp [execOp, h, hi, Instr.indexAt, asIntOf, run_underlying hu, Go.sizeOf, typeInfo, hq, hs', Addr.add_mid, h1, Instr.sureAddr]
theorem r_convBS {P : Program} {ρ : Env} {w : World} {d : Option Tmp} {ty : TypeId} {ps : String} {af : Array Edge} {g : Option (Nat × Bool)} {x : Operand} {S D e b o n c : Nat} {l : List UInt8}
    (h : ev ρ x = .slice (some ⟨b, o, none⟩) n c) (hn : l.length = n) (hu : P.underlying S = some (.slice e)) (he : P.underlying e = some (.int .u8)) (hd : P.underlying D = some .string) (hr : w.rangeAt b o (l.map fun b => Value.int .u8 b.toNat)) :
    (execOp (ev ρ) ⟨d, .convert S D x, ty, ps, af, g⟩).run P w = .ok (.value (.string ⟨l.toArray⟩)) w := by
  have hl : (loadCells ⟨b, o, none⟩ n).run P w = .ok ((l.map fun b => (b.toNat : Int)).map (Value.int .u8)).toArray w := by
    have := run_loadCells_list (P := P) w ⟨b, o, none⟩ (l.map fun b => Value.int .u8 b.toNat) (fun j v hv => by rw [Addr.add_mid]; exact hr j v hv)
    rw [List.length_map, hn] at this
    rw [this]; simp [Function.comp_def]
  have hc := run_bytesToString (P := P) w ⟨b, o, none⟩ n c _ hl
  have hf : ∀ (l : List UInt8) (r : ByteArray), (l.map fun b => (b.toNat : Int)).foldl (fun r n => r.push (UInt8.ofNat n.toNat)) r = ⟨r.data ++ l.toArray⟩ := by
    intro l
    induction l with
    | nil => intro r; simp
    | cons a l ih => intro r; simp only [List.map_cons, List.foldl_cons]; rw [ih]; apply ByteArray.ext; simp [ByteArray.push]
  rw [hf] at hc
  simp only [execOp, h, convert, Sem.run_bind, run_underlying hu, run_underlying hd, run_underlying he, Result.andThen]
  rw [hc]
  simp [ByteArray.empty, ByteArray.emptyWithCapacity]
  rfl
theorem r_copy {P : Program} {ρ : Env} {w w' : World} {d : Option Tmp} {ty : TypeId} {ps : String} {af : Array Edge} {g : Option (Nat × Bool)} {x y : Operand} {ts : Array TypeId} {u v r : Value}
    (hx : ev ρ x = u) (hy : ev ρ y = v) (h : (Builtin.copy_ ts ty #[u, v]).run P w = .ok r w') : (execOp (ev ρ) ⟨d, .call ⟨.builtin .copy, #[x, y], ts⟩, ty, ps, af, g⟩).run P w = .ok (.value r) w' := by
  simp [execOp, resolve, invoke, builtin, hx, hy, h]
theorem r_append {P : Program} {ρ : Env} {w w' : World} {d : Option Tmp} {ty : TypeId} {ps : String} {af : Array Edge} {g : Option (Nat × Bool)} {x y : Operand} {ts : Array TypeId} {u v r : Value}
    (hx : ev ρ x = u) (hy : ev ρ y = v) (h : (Builtin.append_ ts ty #[u, v]).run P w = .ok r w') : (execOp (ev ρ) ⟨d, .call ⟨.builtin .append, #[x, y], ts⟩, ty, ps, af, g⟩).run P w = .ok (.value r) w' := by
  simp [execOp, resolve, invoke, builtin, hx, hy, h]
theorem run_size {P : Program} {t s : Nat} (h : (P.info? t).map (·.size) = some s) (w : World) : (Go.sizeOf t).run P w = .ok s w := by
  cases hq : P.info? t with
  | none => simp [hq] at h
  | some q =>
    have hs' : q.size = s := by simpa [hq] using h
    simp [Go.sizeOf, typeInfo, hq, hs']
/-- 'copy(dst, s)', s a string no longer than dst. -/
theorem run_copy_str (P : Program) (w : World) (dT sT ty elem : TypeId) (b o dLen dCap : Nat) (t : ByteArray)
    (hu : P.underlying dT = some (.slice elem)) (hz : (P.info? elem).map (·.size) = some 1) (hle : t.size ≤ dLen) (ht : w.there b o t.size) :
    (Builtin.copy_ #[dT, sT] ty #[.slice (some ⟨b, o, none⟩) dLen dCap, .string t]).run P w = .ok (.int .i64 t.size) (w.setCells b o (t.data.toList.map fun x => Value.int .u8 (x.toNat : Int))) := by
  have hmin : Nat.min t.size dLen = t.size := Nat.min_eq_left hle
  have hsz : t.size = t.data.toList.length := rfl
  have hl : (t.data.toList.map fun x => Value.int .u8 (x.toNat : Int)).length = t.size := by rw [List.length_map, ← hsz]
  have hst := run_storeCells_cells (P := P) b o (t.data.toList.map fun x => Value.int .u8 (x.toNat : Int)) 0 w (by rw [hl]; intro j hj; simpa using (ht j hj).1) (by rw [hl]; intro j hj; simpa using (ht j hj).2) (by
    intro v hv
    obtain ⟨x, _, rfl⟩ := List.mem_map.1 hv
    rfl)
  have hz' : ∀ w, (Go.sizeOf elem).run P w = .ok 1 w := fun w => run_size hz w
  clear hz ht
  simp [Builtin.copy_, run_underlying hu, Builtin.lenOf, Builtin.firstCells, hz', hmin]
  rw [List.take_of_length_le (by rw [hl]; exact Nat.le_refl _), hst]
  rfl
theorem r_indexN {P : Program} {ρ : Env} {w : World} {d : Option Tmp} {ty : TypeId} {ps : String} {af : Array Edge} {g : Option (Nat × Bool)} {x ix : Operand} {t i : Nat} {k : IntKind} {s : ByteArray} {c : UInt8}
    (h : ev ρ x = .string s) (hi : ev ρ ix = .int k i) (hu : P.underlying t = some .string) (hc : s.data.toList[i]? = some c) : (execOp (ev ρ) ⟨d, .index t x ix, ty, ps, af, g⟩).run P w = .ok (.value (.int .u8 c.toNat)) w := by
  obtain ⟨hlt, hget⟩ := List.getElem?_eq_some_iff.1 hc
  have hlt' : i < s.size := hlt
  have hs : s[i]? = some c := by
    rw [getElem?_pos s i hlt']
    exact congrArg some hget
  simp [execOp, h, hi, Instr.index, asIntOf, run_underlying hu, hs]
theorem r_build0 {P : Program} {ρ : Env} {w : World} {d : Option Tmp} {ty : TypeId} {ps : String} {af : Array Edge} {g : Option (Nat × Bool)} {t : Nat} {z : Value}
    (hb : ∀ w, (Instr.build t #[]).run P w = .ok z w) : (execOp (ev ρ) ⟨d, .build t #[], ty, ps, af, g⟩).run P w = .ok (.value z) w := by
  simp [execOp, hb]
end Go.E
