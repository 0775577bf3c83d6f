/- The engine, part 1: triples for the code of a Go function, over frames that are functions and a list of owned blocks. -/
import Derived.Calls
import Derived.Orders
import Derived.OrdersIn
import Derived.RangeFuncIn
import Derived.RangeFuncRecord
import Derived.KernelRfl
import Derived.Laws.Sem
import Derived.Laws.Cells
import Derived.Laws.World
import Derived.Laws.Entries
import Derived.Laws.StructEq
import Derived.Maps.Keyed
import Derived.DeepKeys4
import Derived.Laws.Externs
set_option linter.unusedVariables false
set_option linter.unusedSimpArgs false

namespace Go.X

/-! ## frames -/
abbrev Env := Nat → Value
def envOf (a : Act) : Env := fun t => a.tmps.getD t undef
def upd (e : Env) (t : Nat) (v : Value) : Env := fun t' => bif Nat.beq t' t then v else e t'
def updO (e : Env) : Option Tmp → Value → Env
  | some t, v => upd e t v
  | none, _ => e
def ev (e : Env) : Operand → Value
  | .tmp t => e t
  | .const v => v
  | .global g => .pointer (some ⟨g, 0, none⟩)
  | .func f => .func (.func f) #[] #[]

theorem eval_eq (a : Act) : a.eval = ev (envOf a) := by
  funext x; cases x <;> rfl

theorem upd_same (e : Env) (t : Nat) (v : Value) : upd e t v t = v := by simp [upd]
theorem upd_ne (e : Env) {t t' : Nat} (v : Value) (h : t' ≠ t) : upd e t v t' = e t' := by
  have : Nat.beq t' t = false := by
    cases hb : Nat.beq t' t with
    | false => rfl
    | true => exact absurd (Nat.eq_of_beq_eq_true hb) h
  simp [upd, this]

/-- an act of a frame of n.k slots that reads as e, with the deferred calls n.ds -/
structure Sz where
  k : Nat
  ds : List Deferred
def Fit (n : Sz) (e : Env) (a : Act) : Prop := a.defers = n.ds ∧ a.tmps.size = n.k ∧ envOf a = e

def dstOk (n : Sz) : Option Tmp → Bool
  | some d => d.blt n.k
  | none => true

theorem Fit.put {n : Sz} {e : Env} {a : Act} (h : Fit n e a) {d : Option Tmp} (hd : dstOk n d = true) (v : Value) :
    Fit n (updO e d v) (a.put d v) := by
  obtain ⟨h1, h2, h3⟩ := h
  cases d with
  | none => exact ⟨h1, h2, h3⟩
  | some d =>
    have hd' : d < a.tmps.size := by rw [h2]; simpa [dstOk, Nat.blt_eq] using hd
    refine ⟨h1, by simp [Act.put, h2], ?_⟩
    subst h3
    funext t
    by_cases ht : t = d
    · subst ht
      simp only [updO, upd_same]
      simp [envOf, Act.put, hd']
    · simp only [updO]
      rw [upd_ne _ _ ht]
      simp [envOf, Act.put, Array.getElem?_setIfInBounds_ne (Ne.symm ht)]

/-! ## code -/
abbrev EW := Env → World → Prop
/-- what is asked of each way out -/
structure Post where
  nor : EW
  ret : EW
  ex : Nat → EW
  gt : Nat → EW
def lk (n : Sz) (K : EW) (a : Act) (w : World) : Prop := a.defers = n.ds ∧ a.tmps.size = n.k ∧ K (envOf a) w
def lift (n : Sz) (Q : Post) : Exit → Act → World → Prop
  | .normal, a, w => lk n Q.nor a w
  | .ret, a, w => lk n Q.ret a w
  | .exit i, a, w => lk n (Q.ex i) a w
  | .goto l, a, w => lk n (Q.gt l) a w
  | .panic _, _, _ => False
  | .outgrown, _, _ => False

def WP (P : Program) (n : Sz) (c : Code) (Q : Post) (e : Env) (w : World) : Prop :=
  ∀ a, Fit n e a → c.wp P (lift n Q) a w

variable {P : Program} {n : Sz} {Q : Post} {e : Env} {w : World}

theorem Fit.lk {n : Sz} {e : Env} {a : Act} (h : Fit n e a) {K : EW} {w : World} (k : K e w) : lk n K a w := by
  obtain ⟨h1, h2, rfl⟩ := h
  exact ⟨h1, h2, k⟩

theorem lk.mono {n : Sz} {a : Act} {K K' : EW} {w : World} (h : lk n K a w) (hk : ∀ e w, K e w → K' e w) : lk n K' a w := ⟨h.1, h.2.1, hk _ _ h.2.2⟩

theorem WP.seq {x y : Code} (h : WP P n x { Q with nor := WP P n y Q } e w) : WP P n (.seq x y) Q e w := by
  intro a ha
  refine wp_seq (wp_mono (h a ha) ?_)
  intro k a' w' hx
  cases k with
  | normal => exact hx.2.2 a' ⟨hx.1, hx.2.1, rfl⟩
  | exit _ => exact hx
  | goto _ => exact hx
  | ret => exact hx
  | panic _ => exact hx.elim
  | outgrown => exact hx.elim

theorem WP.skip (h : Q.nor e w) : WP P n .skip Q e w := fun _ ha => wp_skip (ha.lk h)
theorem WP.exit {id : Nat} (h : Q.ex id e w) : WP P n (.exit id) Q e w := fun _ ha => wp_exit (ha.lk h)
theorem WP.ret (h : Q.ret e w) : WP P n .ret Q e w := fun _ ha => wp_ret (ha.lk h)
theorem WP.goto {l : Nat} (h : Q.gt l e w) : WP P n (.goto l) Q e w := fun _ ha => wp_goto (ha.lk h)

theorem WP.cond {c : Operand} {x y : Code} {t : Bool} (hc : ev e c = .bool t) (h : WP P n (if t then x else y) Q e w) :
    WP P n (.cond c x y) Q e w := fun a ha => by
  refine wp_cond (t := t) ?_ (h a ha)
  rw [eval_eq, ha.2.2]; exact hc

theorem WP.condT {c : Operand} {x y : Code} (hc : ev e c = .bool true) (h : WP P n x Q e w) : WP P n (.cond c x y) Q e w := WP.cond hc h
theorem WP.condF {c : Operand} {x y : Code} (hc : ev e c = .bool false) (h : WP P n y Q e w) : WP P n (.cond c x y) Q e w := WP.cond hc h

theorem WP.mono {c : Code} {Q' : Post} (h : WP P n c Q e w) (h1 : ∀ e w, Q.nor e w → Q'.nor e w) (h2 : ∀ e w, Q.ret e w → Q'.ret e w)
    (h3 : ∀ i e w, Q.ex i e w → Q'.ex i e w) (h4 : ∀ i e w, Q.gt i e w → Q'.gt i e w) : WP P n c Q' e w :=
  fun a ha => wp_mono (h a ha) fun x _ _ hx => by
    cases x with
    | normal => exact lk.mono hx h1
    | exit i => exact lk.mono hx (h3 i)
    | goto i => exact lk.mono hx (h4 i)
    | ret => exact lk.mono hx h2
    | panic _ => exact hx.elim
    | outgrown => exact hx.elim

theorem WP.block {id : Nat} {c : Code} (h : WP P n c { Q with ex := fun i => bif Nat.beq i id then Q.nor else Q.ex i } e w) : WP P n (.block id c) Q e w := by
  intro a ha
  refine wp_block (wp_mono (h a ha) ?_)
  intro k a' w' hx
  cases k with
  | normal => exact hx
  | exit i =>
    simp only [lift] at hx
    show Exit.inBlock id (lift n Q) (.exit i) a' w'
    simp only [Exit.inBlock]
    by_cases hi : i = id
    · subst hi; simpa [lift] using hx
    · have hb : Nat.beq i id = false := by
        cases hb : Nat.beq i id with
        | false => rfl
        | true => exact absurd (Nat.eq_of_beq_eq_true hb) hi
      rw [if_neg hi]
      rw [hb] at hx
      exact hx
  | goto _ => exact hx
  | ret => exact hx
  | panic _ => exact hx.elim
  | outgrown => exact hx.elim

/-- a loop: I m e w: the relation, with m what is left -/
theorem WP.loop {c : Code} (I : Nat → Env → World → Prop) (m : Nat) (h0 : I m e w)
    (round : ∀ m e w, I m e w → WP P n c { Q with nor := fun e' w' => ∃ m', m' < m ∧ I m' e' w' } e w) : WP P n (.loop c) Q e w := by
  intro a ha b k cs
  have key : ∀ m a w, (∃ e, Fit n e a ∧ I m e w) →
      ∃ x a' w', lift n Q x a' w' ∧ Arrives P (lone (b.at a (.code c :: .inLoop c :: k)) cs w) b k cs x a' w' := by
    intro m
    induction m using Nat.strongRecOn with
    | _ m ih =>
      rintro a w ⟨e, ha, hI⟩
      obtain ⟨x, a₁, w₁, hx, harr⟩ := round m e w hI a ha b (.inLoop c :: k) cs
      cases x with
      | normal =>
        obtain ⟨h1, h2, m', hlt, hI₁⟩ := hx
        obtain ⟨x₂, a₂, w₂, hq₂, harr₂⟩ := ih m' hlt a₁ w₁ ⟨_, ⟨h1, h2, rfl⟩, hI₁⟩
        exact ⟨x₂, a₂, w₂, hq₂, .of_steps (Steps.trans harr (.one step_inLoop)) harr₂⟩
      | exit id => exact ⟨.exit id, _, _, hx, .pass (x := .inLoop c) rfl (fun _ _ => .inl (by simp)) harr⟩
      | goto l => exact ⟨.goto l, _, _, hx, .pass (x := .inLoop c) rfl (fun _ _ => .inl (by simp)) harr⟩
      | ret => exact ⟨.ret, _, _, hx, .pass (x := .inLoop c) rfl (fun _ _ => .inl (by simp)) harr⟩
      | panic ch => exact hx.elim
      | outgrown => exact hx.elim
  obtain ⟨x, a', w', hq, harr⟩ := key m a w ⟨e, ha, h0⟩
  exact ⟨x, a', w', hq, .of_steps (.one step_loop) harr⟩

/-! ## one operation -/
def yieldedE (ops : Array Oper) (e : Env) (j : Nat) : Option Bool :=
  match (ops[j]?).bind (·.dst) with
  | some t => match e t with
    | .bool b => some b
    | _ => none
  | none => none
def wantedE (ops : Array Oper) (e : Env) (o : Oper) : Bool :=
  match o.guard with
  | none => true
  | some (j, want) => yieldedE ops e j == some want

theorem yielded_eq (ops : Array Oper) (a : Act) (j : Nat) : yielded ops a.tmps j = yieldedE ops (envOf a) j := by
  unfold yielded yieldedE
  cases (ops[j]?).bind (·.dst) with
  | none => rfl
  | some t =>
    simp only [Option.bind_some, envOf, Array.getD_eq_getD_getElem?]
    cases a.tmps[t]? with
    | none => rfl
    | some v => cases v <;> rfl

theorem wanted_eq (ops : Array Oper) (a : Act) (o : Oper) : Region.wanted o (yielded ops a.tmps) = wantedE ops (envOf a) o := by
  unfold Region.wanted wantedE
  cases o.guard with
  | none => rfl
  | some g => simp only [yielded_eq]

def wideAt (ro : Option Nat) : Fence := { fn := fun _ => True, depth := none, alive := false, round := ro }
theorem semAt_run {o : Oper} {ρ : Operand → Value} {ro : Option Nat} {nx : Next} {w w' : World} (hr : (execOp ρ o).run P w = .ok nx w') (hn : ∀ d, nx ≠ .defer d) :
    (o.semAt ro ρ).run P w = .ok nx w' := by
  by_cases hd : ∃ c, o.op = .defer c
  · obtain ⟨c, hc⟩ := hd
    exfalso
    unfold execOp at hr
    rw [hc] at hr
    simp only [Sem.run_bind] at hr
    cases hres : (resolve ρ c o.type).run P w with
    | halt x w1 => rw [hres] at hr; simp at hr
    | ok d w1 =>
      rw [hres] at hr
      simp only [Result.andThen_ok, Sem.run_pure, Result.ok.injEq] at hr
      exact hn d hr.1.symm
  · rw [Oper.semAt_eq ro ρ o (fun c hc => hd ⟨c, hc⟩)]; exact hr

/-- the operation is carried out, and what comes is K of the frame -/
structure OpS (P : Program) (n : Sz) (o : Oper) (K : Env → World → Prop) (e : Env) (w : World) : Prop where
  go : ∀ a Q, Fit n e a → o.wp P a w (lk n K) Q
  goIn : ∀ ro m a Q, Fit n e a → o.wpIn (wideAt ro) m P a w (lk n K) Q

theorem OpS.value {o : Oper} {K : Env → World → Prop} {v : Value} {w' : World} (hd : dstOk n o.dst = true)
    (hr : (execOp (ev e) o).run P w = .ok (.value v) w') (k : K (updO e o.dst v) w') : OpS P n o K e w := by
  refine ⟨fun a Q ha => ?_, fun ro m a Q ha => ⟨fun _ _ => trivial, ?_⟩⟩
  · unfold Oper.wp
    rw [eval_eq, ha.2.2, hr]
    exact (ha.put hd v).lk k
  · rw [eval_eq, ha.2.2, semAt_run hr (by simp)]
    exact (ha.put hd v).lk k

theorem OpS.skip {o : Oper} {K : Env → World → Prop} {w' : World} (hd : dstOk n o.dst = true)
    (hr : (execOp (ev e) o).run P w = .ok .skip w') (k : K (updO e o.dst undef) w') : OpS P n o K e w := by
  refine ⟨fun a Q ha => ?_, fun ro m a Q ha => ⟨fun _ _ => trivial, ?_⟩⟩
  · unfold Oper.wp
    rw [eval_eq, ha.2.2, hr]
    exact (ha.put hd undef).lk k
  · rw [eval_eq, ha.2.2, semAt_run hr (by simp)]
    exact (ha.put hd undef).lk k

theorem OpS.call {o : Oper} {K : Env → World → Prop} {f : FuncId} {args : Array Value} {w' : World} (hd : dstOk n o.dst = true)
    (hr : (execOp (ev e) o).run P w = .ok (.enter f args) w')
    (k : Calls P f args w' fun x w'' => ∃ v, x = .returned v ∧ K (updO e o.dst v) w'') : OpS P n o K e w := by
  refine ⟨fun a Q ha => ?_, fun ro m a Q ha => ⟨fun _ _ => trivial, ?_⟩⟩
  · unfold Oper.wp
    rw [eval_eq, ha.2.2, hr]
    refine Calls.mono k ?_
    rintro x w'' ⟨v, rfl, hk⟩
    exact (ha.put hd v).lk hk
  · rw [eval_eq, ha.2.2, semAt_run hr (by simp)]
    refine ⟨fun h => (by cases h), ?_⟩
    refine CallsIn.mono (callsIn_wide (n := m - 1) |>.2 k) ?_
    rintro x w'' ⟨v, rfl, hk⟩
    exact (ha.put hd v).lk hk

theorem OpS.mono {o : Oper} {K K' : Env → World → Prop} (h : OpS P n o K e w) (hk : ∀ e w, K e w → K' e w) : OpS P n o K' e w :=
  ⟨fun a Q ha => Oper.wp_mono (fun _ _ hh => ⟨hh.1, hh.2.1, hk _ _ hh.2.2⟩) (h.go a Q ha), fun ro m a Q ha => Oper.wpIn_mono (fun _ _ hh => ⟨hh.1, hh.2.1, hk _ _ hh.2.2⟩) (h.goIn ro m a Q ha)⟩

/-! ## a region in the text's order -/
def WOps (P : Program) (n : Sz) (ops : Array Oper) (Q : Post) (l : List Nat) (e : Env) (w : World) : Prop :=
  ∀ ro m a, Fit n e a → wpOpsIn (wideAt ro) m P ops (lift n Q) l a w
/-- an operation that may be a call of yield -/
structure OpY (P : Program) (n : Sz) (o : Oper) (K : Env → World → Prop) (e : Env) (w : World) : Prop where
  goIn : ∀ ro m a Q, Fit n e a → o.wpIn (wideAt ro) m P a w (lk n K) Q
theorem OpS.y {o : Oper} {K : Env → World → Prop} (h : OpS P n o K e w) : OpY P n o K e w := ⟨h.goIn⟩
theorem OpY.mono {o : Oper} {K K' : Env → World → Prop} (h : OpY P n o K e w) (hk : ∀ e w, K e w → K' e w) : OpY P n o K' e w :=
  ⟨fun ro m a Q ha => Oper.wpIn_mono (fun _ _ hh => ⟨hh.1, hh.2.1, hk _ _ hh.2.2⟩) (h.goIn ro m a Q ha)⟩
/-- a call of yield: a round -/
theorem OpY.round {o : Oper} {K : Env → World → Prop} {l : Nat} {f : FuncId} {tmps : Array Value} {assign body : Code} {w' : World} (hd : dstOk n o.dst = true)
    (hr : (execOp (ev e) o).run P w = .ok (.round l f tmps assign body) w')
    (k : ∀ m, RoundIn Fence.wide m P l f tmps assign body w' fun x w'' => ∃ v, x = .returned v ∧ K (updO e o.dst v) w'') : OpY P n o K e w := by
  refine ⟨fun ro m a Q ha => ⟨fun _ _ => trivial, ?_⟩⟩
  rw [eval_eq, ha.2.2, semAt_run hr (by simp)]
  refine ⟨fun h => (by cases h), ?_⟩
  refine RoundIn.mono (k (m - 1)) ?_
  rintro x w'' ⟨v, rfl, hk⟩
  exact (ha.put hd v).lk hk

theorem WOps.nil {ops : Array Oper} (h : Q.nor e w) : WOps P n ops Q [] e w := fun _ _ _ ha => ha.lk h

theorem WOps.cons {ops : Array Oper} {i : Nat} {rest : List Nat} {o : Oper} (ho : ops[i]? = some o) (hw : wantedE ops e o = true)
    (h : OpY P n o (WOps P n ops Q rest) e w) : WOps P n ops Q (i :: rest) e w := by
  intro ro m a ha
  unfold wpOpsIn
  simp only [ho]
  rw [wanted_eq, ha.2.2, hw]
  simp only [if_true]
  exact Oper.wpIn_mono (fun a' w' hh => hh.2.2 ro m a' ⟨hh.1, hh.2.1, rfl⟩) (h.goIn ro m a _ ha)

theorem WOps.pass {ops : Array Oper} {i : Nat} {rest : List Nat} {o : Oper} (ho : ops[i]? = some o) (hw : wantedE ops e o = false)
    (hd : dstOk n o.dst = true) (h : WOps P n ops Q rest (updO e o.dst undef) w) : WOps P n ops Q (i :: rest) e w := by
  intro ro m a ha
  unfold wpOpsIn
  simp only [ho]
  rw [wanted_eq, ha.2.2, hw]
  simp only [Bool.false_eq_true, if_false]
  exact ⟨fun _ _ => trivial, h ro m _ (ha.put hd undef)⟩

theorem WP.region {id : Nat} {ops : Array Oper} (h : WOps P n ops Q (List.range ops.size) e w) : WP P n (.region id ops false) Q e w :=
  fun a ha => (wpIn_wide (n := 0)).1 (wpIn_region (F := wideAt none) (h none 0 a ha))

/-! ## a region that draws its order: any order, with facts on the world that stay -/
section any
variable {md : Region.Mode} {ops : Array Oper}

def wpAnyI (P : Program) (md : Region.Mode) (ops : Array Oper) (Q : Exit → Act → World → Prop) (I : World → Prop) : Nat → Array Bool → Act → World → Prop
  | 0, listed, a, w => Region.ready md ops listed = [] ∧ Q .normal a w
  | fuel + 1, listed, a, w => (Region.ready md ops listed = [] → Q .normal a w) ∧
      ∀ i ∈ Region.ready md ops listed, wpOp P ops Q i (fun a' w' => I w' ∧ wpAnyI P md ops Q I fuel (listed.setIfInBounds i true) a' w') a w

theorem wpAnyI.mono {Q : Exit → Act → World → Prop} {I I' : World → Prop} (hI : ∀ w, I w → I' w) : ∀ (fuel : Nat) (listed : Array Bool) (a : Act) (w : World),
    wpAnyI P md ops Q I fuel listed a w → wpAnyI P md ops Q I' fuel listed a w
  | 0, _, _, _, h => h
  | fuel + 1, _, _, _, h => ⟨h.1, fun i hi => wpOp_mono (fun _ _ hh => ⟨hI _ hh.1, wpAnyI.mono hI fuel _ _ _ hh.2⟩) (h.2 i hi)⟩

theorem wpAnyI.any {Q : Exit → Act → World → Prop} {I : World → Prop} : ∀ (fuel : Nat) (listed : Array Bool) (a : Act) (w : World),
    wpAnyI P md ops Q I fuel listed a w → wpAny P md ops Q fuel listed a w
  | 0, _, _, _, h => h
  | fuel + 1, _, _, _, h => ⟨h.1, fun i hi => wpOp_mono (fun _ _ hh => wpAnyI.any fuel _ _ _ hh.2) (h.2 i hi)⟩

/-- what operation o gives in this act, in whatever world of I -/
def Gives (P : Program) (ops : Array Oper) (I : World → Prop) (o : Oper) (v : Value) (a : Act) : Prop :=
  (Region.wanted o (yielded ops a.tmps) = true ∧ ∀ w, I w → (execOp a.eval o).run P w = .ok (.value v) w) ∨
  (Region.wanted o (yielded ops a.tmps) = false ∧ v = undef)

theorem Gives.op {Q : Exit → Act → World → Prop} {I : World → Prop} {i : Nat} {o : Oper} {v : Value} {a : Act} (hi : ops[i]? = some o) (hy : Gives P ops I o v a)
    {K : Act → World → Prop} {w : World} (hI : I w) (h : K (a.put o.dst v) w) : wpOp P ops Q i K a w := by
  unfold wpOp
  simp only [hi]
  rcases hy with ⟨hw, hv⟩ | ⟨hw, rfl⟩
  · simp only [hw, if_true, Oper.wp, hv w hI, Oper.upon]; exact .inl h
  · simp only [hw, Bool.false_eq_true, if_false]; exact h

theorem Gives.same {I : World → Prop} {o : Oper} {v : Value} {a a' : Act} (hy : Gives P ops I o v a) (he : execOp a'.eval o = execOp a.eval o)
    (hw : Region.wanted o (yielded ops a'.tmps) = Region.wanted o (yielded ops a.tmps)) : Gives P ops I o v a' := by
  unfold Gives at *
  rw [he, hw]
  exact hy

theorem swap_put {Q : Exit → Act → World → Prop} {j : Nat} {oi oj : Oper} {v : Value} (hj : ops[j]? = some oj) (hap : oi.apart ops oj = true)
    (hsj : ∀ cs b, oj.op ≠ .select cs b) (hQ : ∀ c a w, ¬ Q (.panic c) a w) {Y : Act → Prop}
    (keep : ∀ a u, Y a → Y (a.put oj.dst u)) (keepD : ∀ a d, Y a → Y { a with defers := d :: a.defers })
    {K : Act → World → Prop} {a : Act} {w : World} (hy : Y a) (h : wpOp P ops Q j K (a.put oi.dst v) w) :
    wpOp P ops Q j (fun a' w' => Y a' ∧ K (a'.put oi.dst v) w') a w := by
  obtain ⟨h1, h2, _⟩ := Oper.apart_spec hap
  unfold wpOp at *
  simp only [hj] at *
  rw [wanted_put oj a oi.dst v h1] at h
  cases hw : Region.wanted oj (yielded ops a.tmps) with
  | false =>
    simp only [hw, Bool.false_eq_true, if_false] at h ⊢
    exact ⟨keep a _ hy, by rw [← Act.put_comm a v undef h2]; exact h⟩
  | true =>
    simp only [hw, if_true] at h ⊢
    rcases h with h | ⟨hasks, hlets⟩
    case inr => exact .inr ⟨by unfold Oper.asks at *; rw [execOp_put oj hsj a oi.dst v h1] at hasks; exact hasks, hlets⟩
    refine .inl ?_
    unfold Oper.wp at *
    rw [execOp_put oj hsj a oi.dst v h1] at h
    generalize (execOp a.eval oj).run P w = r at *
    cases r with
    | halt x w' => cases x <;> simp only [Oper.upon] at h ⊢; exact (hQ _ _ _ h).elim
    | ok nx w' =>
      cases nx <;> simp only [Oper.upon] at h ⊢
      case value u => exact ⟨keep a u hy, by rw [← Act.put_comm a v u h2]; exact h⟩
      case skip => exact ⟨keep a _ hy, by rw [← Act.put_comm a v undef h2]; exact h⟩
      case defer d =>
        refine ⟨keep _ _ (keepD a d hy), ?_⟩
        rw [← Act.put_comm _ v undef h2, ← Act.put_defers]
        exact h
      case enter f args =>
        refine Calls.mono h fun x w'' hx => ?_
        cases x with
        | returned u => exact ⟨keep a u hy, by rw [← Act.put_comm a v u h2]; exact hx⟩
        | panicked c => exact (hQ _ _ _ hx).elim
        | outgrown => exact hx
      case row row args => exact Rows.mono h fun u w'' hx => ⟨keep a u hy, by rw [← Act.put_comm a v u h2]; exact hx⟩

theorem wpAnyI_first {Q : Exit → Act → World → Prop} {I I' : World → Prop} (hII : ∀ w, I' w → I w) {i : Nat} {oi : Oper} {v : Value} (hi : ops[i]? = some oi)
    (hs : Region.noSelect ops = true) (hQ : ∀ c a w, ¬ Q (.panic c) a w) :
    ∀ (fuel : Nat) (listed : Array Bool) (a : Act) (w : World),
      (∀ j oj, ops[j]? = some oj → j ≠ i → listed.getD j true = false → (∀ x ∈ oj.after, Region.binds md x = true → x.on ≠ i) → oi.apart ops oj = true) →
      i ∈ Region.ready md ops listed → Gives P ops I' oi v a → I' w →
      wpAnyI P md ops Q I' fuel (listed.setIfInBounds i true) (a.put oi.dst v) w → wpAnyI P md ops Q I (fuel + 1) listed a w := by
  intro fuel
  induction fuel with
  | zero =>
    intro listed a w _ hr hy hI' H
    refine ⟨fun h => (by rw [h] at hr; cases hr), fun j hj => ?_⟩
    by_cases hji : j = i
    · subst hji; exact hy.op hi hI' ⟨hII _ hI', H⟩
    · have := ready_mono hj hji
      rw [H.1] at this
      cases this
  | succ fuel ih =>
    intro listed a w hfree hr hy hI' H
    refine ⟨fun h => (by rw [h] at hr; cases hr), fun j hj => ?_⟩
    by_cases hji : j = i
    · subst hji; exact hy.op hi hI' ⟨hII _ hI', wpAnyI.mono hII _ _ _ _ H⟩
    · have h1 := H.2 j (ready_mono hj hji)
      obtain ⟨hjun, oj, hoj, hall⟩ := mem_ready.1 hj
      have hnot : ∀ x ∈ oj.after, Region.binds md x = true → x.on ≠ i := fun x hx hb heq => by
        have h1 := hall x hx hb
        have h0 := (mem_ready.1 hr).1
        rw [heq] at h1
        rcases Nat.lt_or_ge i listed.size with h' | h'
        · simp [h'] at h0 h1; rw [h0] at h1; cases h1
        · simp [Array.getElem?_eq_none h'] at h1
      have hap := hfree j oj hoj hji hjun hnot
      obtain ⟨_, _, h3⟩ := Oper.apart_spec hap
      have h2 := swap_put hoj hap (fun cs b => Region.noSelect_spec hs j oj cs b hoj) hQ (Y := Gives P ops I' oi v)
        (fun a u hy => hy.same (execOp_put oi (fun cs b => Region.noSelect_spec hs i oi cs b hi) a oj.dst u h3) (wanted_put oi a oj.dst u h3)) (fun _ _ hy => hy.same rfl rfl) hy h1
      have hfree' : ∀ k ok, ops[k]? = some ok → k ≠ i → (listed.setIfInBounds j true).getD k true = false →
          (∀ x ∈ ok.after, Region.binds md x = true → x.on ≠ i) → oi.apart ops ok = true := fun k ok hk hki hun hno => by
        refine hfree k ok hk hki ?_ hno
        by_cases hjk : j = k
        · subst hjk; exact hjun
        · rw [getD_set_ne true hjk] at hun; exact hun
      refine wpOp_mono (fun a' w' h3 => ⟨hII _ h3.2.1, ih (listed.setIfInBounds j true) a' w' hfree' (ready_mono hr (Ne.symm hji)) h3.1 h3.2.1 ?_⟩) h2
      rw [Array.setIfInBounds_comm _ _ hji]
      exact h3.2.2

/-- the same over frames -/
def WAny (P : Program) (n : Sz) (ops : Array Oper) (Q : Post) (I : World → Prop) (fuel : Nat) (listed : Array Bool) (e : Env) (w : World) : Prop :=
  ∀ a, Fit n e a → wpAnyI P .any ops (lift n Q) I fuel listed a w

theorem WAny.take {I : World → Prop} {i : Nat} {oi : Oper} {v : Value} {fuel : Nat} {listed : Array Bool} (J : World → Prop) (hi : ops[i]? = some oi)
    (hs : Region.noSelect ops = true) (hf : Region.free .any ops listed i = true) (hr : (Region.ready .any ops listed).contains i = true) (hd : dstOk n oi.dst = true)
    (hw : wantedE ops e oi = true) (hrun : ∀ w, J w → (execOp (ev e) oi).run P w = .ok (.value v) w) (hI : I w) (hJ : J w)
    (h : WAny P n ops Q (fun w => I w ∧ J w) fuel (listed.setIfInBounds i true) (updO e oi.dst v) w) : WAny P n ops Q I (fuel + 1) listed e w := by
  intro a ha
  refine wpAnyI_first (I' := fun w => I w ∧ J w) (fun _ h => h.1) hi hs (fun _ _ _ h => h) fuel listed a w (Region.free_spec hi hf) (by simpa using hr)
    (.inl ⟨by rw [wanted_eq, ha.2.2]; exact hw, fun w hw => by rw [eval_eq, ha.2.2]; exact hrun w hw.2⟩) ⟨hI, hJ⟩ (h _ (ha.put hd v))

theorem WAny.takeP {I : World → Prop} {i : Nat} {oi : Oper} {v : Value} {fuel : Nat} {listed : Array Bool} (hi : ops[i]? = some oi)
    (hs : Region.noSelect ops = true) (hf : Region.free .any ops listed i = true) (hr : (Region.ready .any ops listed).contains i = true) (hd : dstOk n oi.dst = true)
    (hw : wantedE ops e oi = true) (hrun : ∀ w, (execOp (ev e) oi).run P w = .ok (.value v) w) (hI : I w)
    (h : WAny P n ops Q I fuel (listed.setIfInBounds i true) (updO e oi.dst v) w) : WAny P n ops Q I (fuel + 1) listed e w := by
  intro a ha
  refine wpAnyI_first (I' := I) (fun _ h => h) hi hs (fun _ _ _ h => h) fuel listed a w (Region.free_spec hi hf) (by simpa using hr)
    (.inl ⟨by rw [wanted_eq, ha.2.2]; exact hw, fun w _ => by rw [eval_eq, ha.2.2]; exact hrun w⟩) hI (h _ (ha.put hd v))

theorem WAny.pass {I : World → Prop} {i : Nat} {oi : Oper} {fuel : Nat} {listed : Array Bool} (hi : ops[i]? = some oi)
    (hs : Region.noSelect ops = true) (hf : Region.free .any ops listed i = true) (hr : (Region.ready .any ops listed).contains i = true) (hd : dstOk n oi.dst = true)
    (hw : wantedE ops e oi = false) (hI : I w)
    (h : WAny P n ops Q I fuel (listed.setIfInBounds i true) (updO e oi.dst undef) w) : WAny P n ops Q I (fuel + 1) listed e w := by
  intro a ha
  refine wpAnyI_first (I' := I) (fun _ h => h) hi hs (fun _ _ _ h => h) fuel listed a w (Region.free_spec hi hf) (by simpa using hr)
    (.inr ⟨by rw [wanted_eq, ha.2.2]; exact hw, rfl⟩) hI (h _ (ha.put hd undef))

def AllL (p : Nat → Prop) : List Nat → Prop
  | [] => True
  | i :: l => p i ∧ AllL p l

theorem AllL.mem {p : Nat → Prop} : ∀ {l : List Nat}, AllL p l → ∀ i ∈ l, p i
  | _ :: _, h, i, hi => by
    rcases List.mem_cons.1 hi with rfl | hi
    · exact h.1
    · exact AllL.mem h.2 i hi

/-- operation i of the region, and what comes behind it -/
def Branch (P : Program) (n : Sz) (ops : Array Oper) (K : Env → World → Prop) (e : Env) (w : World) (i : Nat) : Prop :=
  ∃ o, ops[i]? = some o ∧ wantedE ops e o = true ∧ OpS P n o K e w

theorem WAny.branch {I : World → Prop} {fuel : Nat} {listed : Array Bool} (rs : List Nat) (hr : Region.ready .any ops listed = rs) (hne : rs.isEmpty = false)
    (h : AllL (fun i => Branch P n ops (fun e' w' => I w' ∧ WAny P n ops Q I fuel (listed.setIfInBounds i true) e' w') e w i) rs) :
    WAny P n ops Q I (fuel + 1) listed e w := by
  intro a ha
  refine ⟨fun h0 => ?_, fun i hi => ?_⟩
  · rw [hr] at h0; subst h0; cases hne
  · rw [hr] at hi
    obtain ⟨o, ho, hw, hop⟩ := h.mem i hi
    unfold wpOp
    simp only [ho]
    rw [wanted_eq, ha.2.2, hw]
    simp only [if_true]
    exact .inl (Oper.wp_mono (fun a' w' hh => ⟨hh.2.2.1, hh.2.2.2 a' ⟨hh.1, hh.2.1, rfl⟩⟩) (hop.go a _ ha))

theorem WAny.done {I : World → Prop} {listed : Array Bool} (hr : Region.ready .any ops listed = []) (h : Q.nor e w) :
    ∀ fuel, WAny P n ops Q I fuel listed e w
  | 0 => fun _ ha => ⟨hr, ha.lk h⟩
  | _ + 1 => fun _ ha => ⟨fun _ => ha.lk h, by rw [hr]; simp⟩

theorem WP.draw {id : Nat} (hm : P.follows .mixedOrders = true)
    (h : WAny P n ops Q (fun _ => True) ops.size (Array.replicate ops.size false) e { w with drawn := w.drawn + 1 }) : WP P n (.region id ops true) Q e w :=
  fun a ha => wp_region_any hm (wpAnyI.any _ _ _ _ (h a ha))
end any

/-! ## entering a function -/
def resE (fn : Func) (e : Env) : Sem Value := do
  let vs ← fn.results.mapM fun
    | .tmp t => pure (e t)
    | .cell a t => do loadVar t (← asAddr (e a))
  pure (if h : vs.size = 1 then vs[0] else .tuple vs)

/-- the ways out of a body: both come to R -/
def retP (R : EW) : Post := { nor := R, ret := R, ex := fun _ _ _ => False, gt := fun _ _ _ => False }

def argE (args : List Value) : Env := fun t => (args[t]?).getD undef

theorem calls_enter {f : FuncId} {fn : Func} {c : Code} {args : List Value} {K : Value → World → Prop} (hf : P.funcs[f]? = some fn) (hb : fn.body = some c)
    (hn : args.length ≤ fn.ntmps) (h : WP P ⟨fn.ntmps, []⟩ c (retP fun e w => ∃ v, (resE fn e).run P w = .ok v w ∧ K v w) (argE args) w) :
    Calls P f args.toArray w (fun x w' => ∃ v, x = .returned v ∧ K v w') := by
  refine calls_of_wp hf hb (wp_mono (h _ ⟨rfl, ?_, ?_⟩) ?_)
  · simp; omega
  · funext t
    simp only [envOf, argE, Array.getD_eq_getD_getElem?, Array.getElem?_append, List.size_toArray, Array.getElem?_replicate, List.getElem?_toArray]
    split
    · rfl
    · rename_i ht
      rw [List.getElem?_eq_none (by omega)]
      split <;> rfl
  · intro x a w' hx
    cases x with
    | normal => obtain ⟨h1, h2, v, hr, hk⟩ := hx; exact ⟨h1, v, hr, v, rfl, hk⟩
    | ret => obtain ⟨h1, h2, v, hr, hk⟩ := hx; exact ⟨h1, v, hr, v, rfl, hk⟩
    | exit _ => exact hx.2.2.elim
    | goto _ => exact hx.2.2.elim
    | panic _ => exact hx.elim
    | outgrown => exact hx.elim

end Go.X

/- The engine, part 2: what is owned; the glue between operations and code. -/
namespace Go.X

/-! ## memory -/
structure Mod (F : Nat → Prop) (w w' : World) : Prop where
  os : w'.os = w.os
  tape : w'.tape = w.tape
  output : w'.output = w.output
  drawn : w.drawn ≤ w'.drawn
  size : w.heap.size ≤ w'.heap.size
  block : ∀ k, k < w.heap.size → ¬ F k → w'.heap[k]? = w.heap[k]?

theorem Mod.refl (F : Nat → Prop) (w : World) : Mod F w w := ⟨rfl, rfl, rfl, Nat.le_refl _, Nat.le_refl _, fun _ _ _ => rfl⟩
theorem Mod.trans {F : Nat → Prop} {a b c : World} (h : Mod F a b) (k : Mod F b c) : Mod F a c :=
  ⟨k.os.trans h.os, k.tape.trans h.tape, k.output.trans h.output, Nat.le_trans h.drawn k.drawn, Nat.le_trans h.size k.size,
    fun i hi hf => (k.block i (Nat.lt_of_lt_of_le hi h.size) hf).trans (h.block i hi hf)⟩

def setBlk (w : World) (b : Nat) (o : Obj) : World := { w with heap := w.heap.setIfInBounds b o }

theorem lt_of_get {w : World} {b : Nat} {o : Obj} (h : w.heap[b]? = some o) : b < w.heap.size := by
  rcases Nat.lt_or_ge b w.heap.size with h' | h'
  · exact h'
  · rw [Array.getElem?_eq_none h'] at h; cases h

abbrev Pt := Nat × Obj
structure Cx where
  w0 : World
  F : Nat → Prop

/-- from w0 on nothing has changed outside F; the blocks of L lie as L says, and are ours -/
structure St (c : Cx) (L : List Pt) (w : World) : Prop where
  mod : Mod c.F c.w0 w
  nd : (L.map Prod.fst).Nodup
  look : ∀ p ∈ L, w.heap[p.1]? = some p.2
  own : ∀ p ∈ L, c.F p.1 ∨ c.w0.heap.size ≤ p.1

variable {c : Cx} {L L' : List Pt}

theorem St.perm {w : World} (h : St c L w) (hp : L.Perm L') : St c L' w :=
  ⟨h.mod, (hp.map _).nodup_iff.1 h.nd, fun p hm => h.look p (hp.mem_iff.2 hm), fun p hm => h.own p (hp.mem_iff.2 hm)⟩

theorem St.sub {w : World} (h : St c L w) (hp : L'.Sublist L) : St c L' w :=
  ⟨h.mod, (hp.map _).nodup h.nd, fun p hm => h.look p (hp.subset hm), fun p hm => h.own p (hp.subset hm)⟩

theorem St.tail {w : World} {p : Pt} (h : St c (p :: L) w) : St c L w := h.sub (List.sublist_cons_self _ _)

theorem St.lt {w : World} (h : St c L w) {p : Pt} (hp : p ∈ L) : p.1 < w.heap.size := lt_of_get (h.look p hp)

theorem St.new {w : World} (h : St c L w) (o : Obj) : St c ((w.heap.size, o) :: L) (w.alloc o) := by
  refine ⟨⟨h.mod.os, h.mod.tape, h.mod.output, h.mod.drawn, ?_, ?_⟩, ?_, ?_, ?_⟩
  · simp only [World.alloc, Array.size_push]; exact Nat.le_succ_of_le h.mod.size
  · intro k hk hf
    simp only [World.alloc]
    rw [Array.getElem?_push_lt (Nat.lt_of_lt_of_le hk h.mod.size), ← Array.getElem?_eq_getElem]
    exact h.mod.block k hk hf
  · rw [List.map_cons, List.nodup_cons]
    refine ⟨?_, h.nd⟩
    intro hm
    obtain ⟨p, hp, he⟩ := List.mem_map.1 hm
    have := h.lt hp
    omega
  · intro p hp
    simp only [World.alloc]
    rcases List.mem_cons.1 hp with rfl | hp
    · simp
    · have hl := h.lt hp
      rw [Array.getElem?_push_lt hl, ← Array.getElem?_eq_getElem]
      exact h.look p hp
  · intro p hp
    rcases List.mem_cons.1 hp with rfl | hp
    · exact .inr h.mod.size
    · exact h.own p hp

theorem St.set {w : World} {A B : List Pt} {b : Nat} {o o' : Obj} (h : St c (A ++ (b, o) :: B) w) : St c (A ++ (b, o') :: B) (setBlk w b o') := by
  have hm : (b, o) ∈ A ++ (b, o) :: B := by simp
  have hlt : b < w.heap.size := h.lt hm
  have hnd := h.nd
  refine ⟨⟨h.mod.os, h.mod.tape, h.mod.output, h.mod.drawn, by simpa [setBlk] using h.mod.size, ?_⟩, ?_, ?_, ?_⟩
  · intro k hk hf
    have hne : b ≠ k := by
      rintro rfl
      rcases h.own _ hm with h1 | h1
      · exact hf h1
      · exact absurd hk (Nat.not_lt.2 h1)
    simp only [setBlk]
    rw [Array.getElem?_setIfInBounds_ne hne]
    exact h.mod.block k hk hf
  · simpa using hnd
  · intro p hp
    simp only [setBlk]
    simp only [List.map_append, List.map_cons, List.nodup_append, List.nodup_cons] at hnd
    obtain ⟨_, ⟨hb, _⟩, hab⟩ := hnd
    rcases List.mem_append.1 hp with hA | hB
    · have hne : b ≠ p.1 := fun e => (hab p.1 (List.mem_map.2 ⟨p, hA, rfl⟩) b (by simp)) e.symm
      rw [Array.getElem?_setIfInBounds_ne hne]
      exact h.look p (List.mem_append_left _ hA)
    · rcases List.mem_cons.1 hB with rfl | hB
      · simp [hlt]
      · have hne : b ≠ p.1 := fun e => hb (List.mem_map.2 ⟨p, hB, e.symm⟩)
        rw [Array.getElem?_setIfInBounds_ne hne]
        exact h.look p (List.mem_append_right _ (List.mem_cons_of_mem _ hB))
  · intro p hp
    rcases List.mem_append.1 hp with hA | hB
    · exact h.own p (List.mem_append_left _ hA)
    · rcases List.mem_cons.1 hB with rfl | hB
      · exact h.own (b, o) hm
      · exact h.own p (List.mem_append_right _ (List.mem_cons_of_mem _ hB))

theorem St.drew {w : World} (h : St c L w) (n : Nat) (hn : w.drawn ≤ n := by exact Nat.le_succ _) : St c L { w with drawn := n } :=
  ⟨⟨h.mod.os, h.mod.tape, h.mod.output, Nat.le_trans h.mod.drawn hn, h.mod.size, h.mod.block⟩, h.nd, h.look, h.own⟩

/-- the block can be read -/
def Rd (c : Cx) (L : List Pt) (b : Nat) (o : Obj) : Prop := ∀ w, St c L w → w.heap[b]? = some o

theorem Rd.mem {b : Nat} {o : Obj} (h : (b, o) ∈ L) : Rd c L b o := fun _ hs => hs.look _ h
theorem Rd.old {b : Nat} {o : Obj} (h : c.w0.heap[b]? = some o) (hf : ¬ c.F b) : Rd c L b o :=
  fun _ hs => (hs.mod.block b (lt_of_get h) hf).trans h
theorem Rd.cons {b : Nat} {o : Obj} {p : Pt} (h : Rd c L b o) : Rd c (p :: L) b o := fun w hs => h w hs.tail
theorem Rd.sub {b : Nat} {o : Obj} (h : Rd c L b o) (hs : L.Sublist L') : Rd c L' b o := fun w hw => h w (hw.sub hs)
theorem Rd.head {b : Nat} {o : Obj} : Rd c ((b, o) :: L) b o := Rd.mem List.mem_cons_self

/-- from the state L on -/
def Ent (c : Cx) (L : List Pt) (K : Env → World → Prop) (e : Env) : Prop := ∀ w, St c L w → K e w

theorem Ent.mono {K K' : Env → World → Prop} {e : Env} (h : Ent c L K e) (hk : ∀ e w, K e w → K' e w) : Ent c L K' e := fun w hw => hk _ _ (h w hw)
theorem Ent.sub {K : Env → World → Prop} {e : Env} (h : Ent c L' K e) (hs : L'.Sublist L) : Ent c L K e := fun w hw => h w (hw.sub hs)
theorem Ent.perm {K : Env → World → Prop} {e : Env} (h : Ent c L' K e) (hs : L.Perm L') : Ent c L K e := fun w hw => h w (hw.perm hs)
theorem Ent.drop {K : Env → World → Prop} {e : Env} {p : Pt} (h : Ent c L K e) : Ent c (p :: L) K e := fun w hw => h w hw.tail

/-! ## what operations do -/
section ops
variable {P : Program} {n : Sz} {Q : Post} {e : Env} {o : Oper}

def Rn0 (P : Program) (e : Env) (o : Oper) (v : Value) : Prop := ∀ w, (execOp (ev e) o).run P w = .ok (.value v) w
def Rn1 (P : Program) (e : Env) (o : Oper) (b : Nat) (ob : Obj) (v : Value) : Prop :=
  ∀ w, w.heap[b]? = some ob → (execOp (ev e) o).run P w = .ok (.value v) w
def En (P : Program) (e : Env) (o : Oper) (ob : Obj) (mk : Nat → Value) : Prop := ∀ w, (execOp (ev e) o).run P w = .ok (.value (mk w.heap.size)) (w.alloc ob)
/-- a change of one block; the answer's value -/
def Es (P : Program) (e : Env) (o : Oper) (b : Nat) (ob ob' : Obj) (v : Value) : Prop :=
  ∀ w, w.heap[b]? = some ob → ∃ nx, (execOp (ev e) o).run P w = .ok nx (setBlk w b ob') ∧ (nx = .value v ∨ nx = .skip ∧ v = undef)

variable {K : Env → World → Prop}

theorem Op.rd0 {v : Value} (hd : dstOk n o.dst = true) (h : Rn0 P e o v) (k : Ent c L K (updO e o.dst v)) : Ent c L (OpS P n o K) e :=
  fun w hw => OpS.value hd (h w) (k w hw)
theorem Op.rd1 {v : Value} {b : Nat} {ob : Obj} (hd : dstOk n o.dst = true) (h : Rn1 P e o b ob v) (hr : Rd c L b ob) (k : Ent c L K (updO e o.dst v)) : Ent c L (OpS P n o K) e :=
  fun w hw => OpS.value hd (h w (hr w hw)) (k w hw)
theorem Op.new {ob : Obj} {mk : Nat → Value} (hd : dstOk n o.dst = true) (h : En P e o ob mk)
    (k : ∀ b, c.w0.heap.size ≤ b → Ent c ((b, ob) :: L) K (updO e o.dst (mk b))) : Ent c L (OpS P n o K) e :=
  fun w hw => OpS.value hd (h w) (k _ hw.mod.size _ (hw.new ob))
theorem Op.set {v : Value} {b : Nat} {ob ob' : Obj} {A B : List Pt} (hL : L = A ++ (b, ob) :: B) (hd : dstOk n o.dst = true) (h : Es P e o b ob ob' v)
    (k : Ent c (A ++ (b, ob') :: B) K (updO e o.dst v)) : Ent c L (OpS P n o K) e := by
  subst hL
  intro w hw
  obtain ⟨nx, hr, hn⟩ := h w (hw.look (b, ob) (by simp))
  rcases hn with rfl | ⟨rfl, rfl⟩
  · exact OpS.value hd hr (k _ hw.set)
  · exact OpS.skip hd hr (k _ hw.set)

theorem Op.set0 {v : Value} {b : Nat} {ob ob' : Obj} {B : List Pt} (hd : dstOk n o.dst = true) (h : Es P e o b ob ob' v)
    (k : Ent c ((b, ob') :: B) K (updO e o.dst v)) : Ent c ((b, ob) :: B) (OpS P n o K) e := Op.set (A := []) rfl hd h k
theorem Op.set1 {v : Value} {b : Nat} {ob ob' : Obj} {p0 : Pt} {B : List Pt} (hd : dstOk n o.dst = true) (h : Es P e o b ob ob' v)
    (k : Ent c (p0 :: (b, ob') :: B) K (updO e o.dst v)) : Ent c (p0 :: (b, ob) :: B) (OpS P n o K) e := Op.set (A := [p0]) rfl hd h k
theorem Op.set2 {v : Value} {b : Nat} {ob ob' : Obj} {p0 p1 : Pt} {B : List Pt} (hd : dstOk n o.dst = true) (h : Es P e o b ob ob' v)
    (k : Ent c (p0 :: p1 :: (b, ob') :: B) K (updO e o.dst v)) : Ent c (p0 :: p1 :: (b, ob) :: B) (OpS P n o K) e := Op.set (A := [p0, p1]) rfl hd h k
theorem Op.set3 {v : Value} {b : Nat} {ob ob' : Obj} {p0 p1 p2 : Pt} {B : List Pt} (hd : dstOk n o.dst = true) (h : Es P e o b ob ob' v)
    (k : Ent c (p0 :: p1 :: p2 :: (b, ob') :: B) K (updO e o.dst v)) : Ent c (p0 :: p1 :: p2 :: (b, ob) :: B) (OpS P n o K) e := Op.set (A := [p0, p1, p2]) rfl hd h k
theorem Op.set4 {v : Value} {b : Nat} {ob ob' : Obj} {p0 p1 p2 p3 : Pt} {B : List Pt} (hd : dstOk n o.dst = true) (h : Es P e o b ob ob' v)
    (k : Ent c (p0 :: p1 :: p2 :: p3 :: (b, ob') :: B) K (updO e o.dst v)) : Ent c (p0 :: p1 :: p2 :: p3 :: (b, ob) :: B) (OpS P n o K) e := Op.set (A := [p0, p1, p2, p3]) rfl hd h k
/-- a function called from the state L: what it gives, and the state behind -/
def Fn (P : Program) (f : FuncId) (args : Array Value) (c : Cx) (L : List Pt) (post : Value → List Pt → Prop) : Prop :=
  ∀ w, St c L w → Calls P f args w (fun x w' => ∃ v, x = .returned v ∧ ∃ L', post v L' ∧ St c L' w')

theorem Fn.mono {f : FuncId} {args : Array Value} {post post' : Value → List Pt → Prop} (h : Fn P f args c L post) (hp : ∀ v L', post v L' → post' v L') :
    Fn P f args c L post' := fun w hw => (h w hw).mono fun _ _ ⟨v, h1, L', h2, h3⟩ => ⟨v, h1, L', hp _ _ h2, h3⟩

/-- the operation calls f at args -/
def Ec (P : Program) (e : Env) (o : Oper) (f : FuncId) (args : Array Value) : Prop := ∀ w, (execOp (ev e) o).run P w = .ok (.enter f args) w

theorem Op.call {f : FuncId} {args : Array Value} {post : Value → List Pt → Prop} (hd : dstOk n o.dst = true) (h : Ec P e o f args) (hf : Fn P f args c L post)
    (k : ∀ v L', post v L' → Ent c L' K (updO e o.dst v)) : Ent c L (OpS P n o K) e :=
  fun w hw => OpS.call hd (h w) ((hf w hw).mono fun _ _ ⟨v, h1, L', h2, h3⟩ => ⟨v, h1, k v L' h2 _ h3⟩)

/-- whatever an operation does, told of all states at once -/
def Eg (P : Program) (e : Env) (o : Oper) (c : Cx) (L : List Pt) (post : Value → List Pt → Prop) : Prop :=
  ∀ w, St c L w → ∃ v w' L', ((execOp (ev e) o).run P w = .ok (.value v) w' ∨ (execOp (ev e) o).run P w = .ok .skip w' ∧ v = undef) ∧ post v L' ∧ St c L' w'
theorem Op.gen {post : Value → List Pt → Prop} (hd : dstOk n o.dst = true) (h : Eg P e o c L post)
    (k : ∀ v L', post v L' → Ent c L' K (updO e o.dst v)) : Ent c L (OpS P n o K) e := fun w hw => by
  obtain ⟨v, w', L', hr, hp, hs⟩ := h w hw
  rcases hr with hr | ⟨hr, rfl⟩
  · exact OpS.value hd hr (k v L' hp w' hs)
  · exact OpS.skip hd hr (k _ L' hp w' hs)

/-! ## places of a row of operations -/
theorem at0 {a0 : Oper} {r : List Oper} : (List.toArray (a0 :: r))[0]? = some a0 := rfl
theorem at1 {a0 a1 : Oper} {r : List Oper} : (List.toArray (a0 :: a1 :: r))[1]? = some a1 := rfl
theorem at2 {a0 a1 a2 : Oper} {r : List Oper} : (List.toArray (a0 :: a1 :: a2 :: r))[2]? = some a2 := rfl
theorem at3 {a0 a1 a2 a3 : Oper} {r : List Oper} : (List.toArray (a0 :: a1 :: a2 :: a3 :: r))[3]? = some a3 := rfl
theorem at4 {a0 a1 a2 a3 a4 : Oper} {r : List Oper} : (List.toArray (a0 :: a1 :: a2 :: a3 :: a4 :: r))[4]? = some a4 := rfl
theorem at5 {a0 a1 a2 a3 a4 a5 : Oper} {r : List Oper} : (List.toArray (a0 :: a1 :: a2 :: a3 :: a4 :: a5 :: r))[5]? = some a5 := rfl
theorem at6 {a0 a1 a2 a3 a4 a5 a6 : Oper} {r : List Oper} : (List.toArray (a0 :: a1 :: a2 :: a3 :: a4 :: a5 :: a6 :: r))[6]? = some a6 := rfl
theorem at7 {a0 a1 a2 a3 a4 a5 a6 a7 : Oper} {r : List Oper} : (List.toArray (a0 :: a1 :: a2 :: a3 :: a4 :: a5 :: a6 :: a7 :: r))[7]? = some a7 := rfl
theorem at8 {a0 a1 a2 a3 a4 a5 a6 a7 a8 : Oper} {r : List Oper} : (List.toArray (a0 :: a1 :: a2 :: a3 :: a4 :: a5 :: a6 :: a7 :: a8 :: r))[8]? = some a8 := rfl
theorem at9 {a0 a1 a2 a3 a4 a5 a6 a7 a8 a9 : Oper} {r : List Oper} : (List.toArray (a0 :: a1 :: a2 :: a3 :: a4 :: a5 :: a6 :: a7 :: a8 :: a9 :: r))[9]? = some a9 := rfl
theorem at10 {a0 a1 a2 a3 a4 a5 a6 a7 a8 a9 a10 : Oper} {r : List Oper} : (List.toArray (a0 :: a1 :: a2 :: a3 :: a4 :: a5 :: a6 :: a7 :: a8 :: a9 :: a10 :: r))[10]? = some a10 := rfl
theorem at11 {a0 a1 a2 a3 a4 a5 a6 a7 a8 a9 a10 a11 : Oper} {r : List Oper} : (List.toArray (a0 :: a1 :: a2 :: a3 :: a4 :: a5 :: a6 :: a7 :: a8 :: a9 :: a10 :: a11 :: r))[11]? = some a11 := rfl
theorem at12 {a0 a1 a2 a3 a4 a5 a6 a7 a8 a9 a10 a11 a12 : Oper} {r : List Oper} : (List.toArray (a0 :: a1 :: a2 :: a3 :: a4 :: a5 :: a6 :: a7 :: a8 :: a9 :: a10 :: a11 :: a12 :: r))[12]? = some a12 := rfl
theorem at13 {a0 a1 a2 a3 a4 a5 a6 a7 a8 a9 a10 a11 a12 a13 : Oper} {r : List Oper} : (List.toArray (a0 :: a1 :: a2 :: a3 :: a4 :: a5 :: a6 :: a7 :: a8 :: a9 :: a10 :: a11 :: a12 :: a13 :: r))[13]? = some a13 := rfl
theorem at14 {a0 a1 a2 a3 a4 a5 a6 a7 a8 a9 a10 a11 a12 a13 a14 : Oper} {r : List Oper} : (List.toArray (a0 :: a1 :: a2 :: a3 :: a4 :: a5 :: a6 :: a7 :: a8 :: a9 :: a10 :: a11 :: a12 :: a13 :: a14 :: r))[14]? = some a14 := rfl
theorem at15 {a0 a1 a2 a3 a4 a5 a6 a7 a8 a9 a10 a11 a12 a13 a14 a15 : Oper} {r : List Oper} : (List.toArray (a0 :: a1 :: a2 :: a3 :: a4 :: a5 :: a6 :: a7 :: a8 :: a9 :: a10 :: a11 :: a12 :: a13 :: a14 :: a15 :: r))[15]? = some a15 := rfl
theorem at16 {a0 a1 a2 a3 a4 a5 a6 a7 a8 a9 a10 a11 a12 a13 a14 a15 a16 : Oper} {r : List Oper} : (List.toArray (a0 :: a1 :: a2 :: a3 :: a4 :: a5 :: a6 :: a7 :: a8 :: a9 :: a10 :: a11 :: a12 :: a13 :: a14 :: a15 :: a16 :: r))[16]? = some a16 := rfl
theorem at17 {a0 a1 a2 a3 a4 a5 a6 a7 a8 a9 a10 a11 a12 a13 a14 a15 a16 a17 : Oper} {r : List Oper} : (List.toArray (a0 :: a1 :: a2 :: a3 :: a4 :: a5 :: a6 :: a7 :: a8 :: a9 :: a10 :: a11 :: a12 :: a13 :: a14 :: a15 :: a16 :: a17 :: r))[17]? = some a17 := rfl
theorem at18 {a0 a1 a2 a3 a4 a5 a6 a7 a8 a9 a10 a11 a12 a13 a14 a15 a16 a17 a18 : Oper} {r : List Oper} : (List.toArray (a0 :: a1 :: a2 :: a3 :: a4 :: a5 :: a6 :: a7 :: a8 :: a9 :: a10 :: a11 :: a12 :: a13 :: a14 :: a15 :: a16 :: a17 :: a18 :: r))[18]? = some a18 := rfl
theorem at19 {a0 a1 a2 a3 a4 a5 a6 a7 a8 a9 a10 a11 a12 a13 a14 a15 a16 a17 a18 a19 : Oper} {r : List Oper} : (List.toArray (a0 :: a1 :: a2 :: a3 :: a4 :: a5 :: a6 :: a7 :: a8 :: a9 :: a10 :: a11 :: a12 :: a13 :: a14 :: a15 :: a16 :: a17 :: a18 :: a19 :: r))[19]? = some a19 := rfl
theorem at20 {a0 a1 a2 a3 a4 a5 a6 a7 a8 a9 a10 a11 a12 a13 a14 a15 a16 a17 a18 a19 a20 : Oper} {r : List Oper} : (List.toArray (a0 :: a1 :: a2 :: a3 :: a4 :: a5 :: a6 :: a7 :: a8 :: a9 :: a10 :: a11 :: a12 :: a13 :: a14 :: a15 :: a16 :: a17 :: a18 :: a19 :: a20 :: r))[20]? = some a20 := rfl
theorem at21 {a0 a1 a2 a3 a4 a5 a6 a7 a8 a9 a10 a11 a12 a13 a14 a15 a16 a17 a18 a19 a20 a21 : Oper} {r : List Oper} : (List.toArray (a0 :: a1 :: a2 :: a3 :: a4 :: a5 :: a6 :: a7 :: a8 :: a9 :: a10 :: a11 :: a12 :: a13 :: a14 :: a15 :: a16 :: a17 :: a18 :: a19 :: a20 :: a21 :: r))[21]? = some a21 := rfl
theorem at22 {a0 a1 a2 a3 a4 a5 a6 a7 a8 a9 a10 a11 a12 a13 a14 a15 a16 a17 a18 a19 a20 a21 a22 : Oper} {r : List Oper} : (List.toArray (a0 :: a1 :: a2 :: a3 :: a4 :: a5 :: a6 :: a7 :: a8 :: a9 :: a10 :: a11 :: a12 :: a13 :: a14 :: a15 :: a16 :: a17 :: a18 :: a19 :: a20 :: a21 :: a22 :: r))[22]? = some a22 := rfl
theorem at23 {a0 a1 a2 a3 a4 a5 a6 a7 a8 a9 a10 a11 a12 a13 a14 a15 a16 a17 a18 a19 a20 a21 a22 a23 : Oper} {r : List Oper} : (List.toArray (a0 :: a1 :: a2 :: a3 :: a4 :: a5 :: a6 :: a7 :: a8 :: a9 :: a10 :: a11 :: a12 :: a13 :: a14 :: a15 :: a16 :: a17 :: a18 :: a19 :: a20 :: a21 :: a22 :: a23 :: r))[23]? = some a23 := rfl
theorem at24 {a0 a1 a2 a3 a4 a5 a6 a7 a8 a9 a10 a11 a12 a13 a14 a15 a16 a17 a18 a19 a20 a21 a22 a23 a24 : Oper} {r : List Oper} : (List.toArray (a0 :: a1 :: a2 :: a3 :: a4 :: a5 :: a6 :: a7 :: a8 :: a9 :: a10 :: a11 :: a12 :: a13 :: a14 :: a15 :: a16 :: a17 :: a18 :: a19 :: a20 :: a21 :: a22 :: a23 :: a24 :: r))[24]? = some a24 := rfl
theorem at25 {a0 a1 a2 a3 a4 a5 a6 a7 a8 a9 a10 a11 a12 a13 a14 a15 a16 a17 a18 a19 a20 a21 a22 a23 a24 a25 : Oper} {r : List Oper} : (List.toArray (a0 :: a1 :: a2 :: a3 :: a4 :: a5 :: a6 :: a7 :: a8 :: a9 :: a10 :: a11 :: a12 :: a13 :: a14 :: a15 :: a16 :: a17 :: a18 :: a19 :: a20 :: a21 :: a22 :: a23 :: a24 :: a25 :: r))[25]? = some a25 := rfl
theorem at26 {a0 a1 a2 a3 a4 a5 a6 a7 a8 a9 a10 a11 a12 a13 a14 a15 a16 a17 a18 a19 a20 a21 a22 a23 a24 a25 a26 : Oper} {r : List Oper} : (List.toArray (a0 :: a1 :: a2 :: a3 :: a4 :: a5 :: a6 :: a7 :: a8 :: a9 :: a10 :: a11 :: a12 :: a13 :: a14 :: a15 :: a16 :: a17 :: a18 :: a19 :: a20 :: a21 :: a22 :: a23 :: a24 :: a25 :: a26 :: r))[26]? = some a26 := rfl
/-! ## in the text's order -/
variable {ops : Array Oper} {i : Nat} {rest : List Nat}

theorem Seq.op (ho : ops[i]? = some o) (hw : wantedE ops e o = true) (h : Ent c L (OpS P n o (WOps P n ops Q rest)) e) : Ent c L (WOps P n ops Q (i :: rest)) e :=
  fun w hs => WOps.cons ho hw (h w hs).y
/-- a call of yield -/
theorem Seq.opY (ho : ops[i]? = some o) (hw : wantedE ops e o = true) (h : Ent c L (OpY P n o (WOps P n ops Q rest)) e) : Ent c L (WOps P n ops Q (i :: rest)) e :=
  fun w hs => WOps.cons ho hw (h w hs)
theorem Seq.rd0 {v : Value} (ho : ops[i]? = some o) (hw : wantedE ops e o = true) (hd : dstOk n o.dst = true) (h : Rn0 P e o v)
    (k : Ent c L (WOps P n ops Q rest) (updO e o.dst v)) : Ent c L (WOps P n ops Q (i :: rest)) e := Seq.op ho hw (Op.rd0 hd h k)
theorem Seq.rd1 {v : Value} {b : Nat} {ob : Obj} (ho : ops[i]? = some o) (hw : wantedE ops e o = true) (hd : dstOk n o.dst = true) (h : Rn1 P e o b ob v) (hr : Rd c L b ob)
    (k : Ent c L (WOps P n ops Q rest) (updO e o.dst v)) : Ent c L (WOps P n ops Q (i :: rest)) e := Seq.op ho hw (Op.rd1 hd h hr k)
theorem Seq.pass (ho : ops[i]? = some o) (hw : wantedE ops e o = false) (hd : dstOk n o.dst = true) (h : Ent c L (WOps P n ops Q rest) (updO e o.dst undef)) :
    Ent c L (WOps P n ops Q (i :: rest)) e := fun w hs => WOps.pass ho hw hd (h w hs)
theorem Seq.nil (h : Ent c L Q.nor e) : Ent c L (WOps P n ops Q []) e := fun w hs => WOps.nil (h w hs)

/-! ## in whatever order -/
def TkI : List Pt → World → Prop
  | [] => fun _ => True
  | p :: T => fun w => TkI T w ∧ w.heap[p.1]? = some p.2
def TkR (c : Cx) (L : List Pt) : List Pt → Prop
  | [] => True
  | p :: T => TkR c L T ∧ Rd c L p.1 p.2
theorem TkR.I {w : World} (hs : St c L w) : ∀ {T : List Pt}, TkR c L T → TkI T w
  | [], _ => trivial
  | _ :: _, h => ⟨TkR.I hs h.1, h.2 w hs⟩
theorem TkR.sub (hs : L.Sublist L') : ∀ {T : List Pt}, TkR c L T → TkR c L' T
  | [], _ => trivial
  | _ :: _, h => ⟨TkR.sub hs h.1, h.2.sub hs⟩
theorem TkR.cons {p : Pt} {T : List Pt} (h : TkR c L T) : TkR c (p :: L) T := h.sub (List.sublist_cons_self _ _)

/-- the rest of a region that draws, from the state L on, the blocks of T having been read -/
def Any (P : Program) (n : Sz) (ops : Array Oper) (Q : Post) (c : Cx) (L T : List Pt) (fuel : Nat) (listed : Array Bool) (e : Env) : Prop :=
  TkR c L T ∧ Ent c L (WAny P n ops Q (TkI T) fuel listed) e

variable {T : List Pt} {fuel : Nat} {listed : Array Bool}

theorem Any.rd0 (i : Nat) {v : Value} (ho : ops[i]? = some o) (hw : wantedE ops e o = true) (hd : dstOk n o.dst = true) (h : Rn0 P e o v)
    (hs : Region.noSelect ops = true) (hf : Region.free .any ops listed i = true) (hr : (Region.ready .any ops listed).contains i = true)
    (k : Any P n ops Q c L T fuel (listed.setIfInBounds i true) (updO e o.dst v)) : Any P n ops Q c L T (fuel + 1) listed e :=
  ⟨k.1, fun w hw' => WAny.takeP ho hs hf hr hd hw h (k.1.I hw') (k.2 w hw')⟩
theorem Any.rd1 (i : Nat) {v : Value} {b : Nat} {ob : Obj} (ho : ops[i]? = some o) (hw : wantedE ops e o = true) (hd : dstOk n o.dst = true) (h : Rn1 P e o b ob v) (hrd : Rd c L b ob)
    (hs : Region.noSelect ops = true) (hf : Region.free .any ops listed i = true) (hr : (Region.ready .any ops listed).contains i = true)
    (k : Any P n ops Q c L ((b, ob) :: T) fuel (listed.setIfInBounds i true) (updO e o.dst v)) : Any P n ops Q c L T (fuel + 1) listed e :=
  ⟨k.1.1, fun w hw' => WAny.take (fun w => w.heap[b]? = some ob) ho hs hf hr hd hw (fun w hb => h w hb) (k.1.1.I hw') (hrd w hw') (k.2 w hw')⟩
theorem Any.pass (i : Nat) (ho : ops[i]? = some o) (hw : wantedE ops e o = false) (hd : dstOk n o.dst = true)
    (hs : Region.noSelect ops = true) (hf : Region.free .any ops listed i = true) (hr : (Region.ready .any ops listed).contains i = true)
    (k : Any P n ops Q c L T fuel (listed.setIfInBounds i true) (updO e o.dst undef)) : Any P n ops Q c L T (fuel + 1) listed e :=
  ⟨k.1, fun w hw' => WAny.pass ho hs hf hr hd hw (k.1.I hw') (k.2 w hw')⟩

/-- what comes behind an operation of a region that draws -/
def KAny (P : Program) (n : Sz) (ops : Array Oper) (Q : Post) (T : List Pt) (fuel : Nat) (listed : Array Bool) : Env → World → Prop :=
  fun e w => TkI T w ∧ WAny P n ops Q (TkI T) fuel listed e w
theorem Any.toK (h : Any P n ops Q c L T fuel listed e) : Ent c L (KAny P n ops Q T fuel listed) e := fun w hw => ⟨h.1.I hw, h.2 w hw⟩

theorem Any.one (i : Nat) (ho : ops[i]? = some o) (hw : wantedE ops e o = true) (hr : Region.ready .any ops listed = [i]) (hT : TkR c L T)
    (h : Ent c L (OpS P n o (KAny P n ops Q T fuel (listed.setIfInBounds i true))) e) : Any P n ops Q c L T (fuel + 1) listed e :=
  ⟨hT, fun w hs => WAny.branch [i] hr rfl ⟨⟨o, ho, hw, h w hs⟩, trivial⟩⟩
theorem Any.two (i j : Nat) {o' : Oper} (ho : ops[i]? = some o) (ho' : ops[j]? = some o') (hw : wantedE ops e o = true) (hw' : wantedE ops e o' = true) (hr : Region.ready .any ops listed = [i, j]) (hT : TkR c L T)
    (h : Ent c L (OpS P n o (KAny P n ops Q T fuel (listed.setIfInBounds i true))) e)
    (h' : Ent c L (OpS P n o' (KAny P n ops Q T fuel (listed.setIfInBounds j true))) e) : Any P n ops Q c L T (fuel + 1) listed e :=
  ⟨hT, fun w hs => WAny.branch [i, j] hr rfl ⟨⟨o, ho, hw, h w hs⟩, ⟨o', ho', hw', h' w hs⟩, trivial⟩⟩
theorem Any.three (i j k : Nat) {o' o'' : Oper} (ho : ops[i]? = some o) (ho' : ops[j]? = some o') (ho'' : ops[k]? = some o'') (hw : wantedE ops e o = true) (hw' : wantedE ops e o' = true) (hw'' : wantedE ops e o'' = true)
    (hr : Region.ready .any ops listed = [i, j, k]) (hT : TkR c L T)
    (h : Ent c L (OpS P n o (KAny P n ops Q T fuel (listed.setIfInBounds i true))) e)
    (h' : Ent c L (OpS P n o' (KAny P n ops Q T fuel (listed.setIfInBounds j true))) e)
    (h'' : Ent c L (OpS P n o'' (KAny P n ops Q T fuel (listed.setIfInBounds k true))) e) : Any P n ops Q c L T (fuel + 1) listed e :=
  ⟨hT, fun w hs => WAny.branch [i, j, k] hr rfl ⟨⟨o, ho, hw, h w hs⟩, ⟨o', ho', hw', h' w hs⟩, ⟨o'', ho'', hw'', h'' w hs⟩, trivial⟩⟩
theorem Any.done (hr : Region.ready .any ops listed = []) (hT : TkR c L T) (h : Ent c L Q.nor e) : Any P n ops Q c L T fuel listed e :=
  ⟨hT, fun w hs => WAny.done hr (h w hs) fuel⟩

/-! ## code -/
theorem Cd.region {id : Nat} (l : List Nat) (hl : List.range ops.size = l) (h : Ent c L (WOps P n ops Q l) e) : Ent c L (WP P n (.region id ops false) Q) e :=
  fun w hs => WP.region (by rw [hl]; exact h w hs)
theorem Cd.draw {id : Nat} (k : Nat) (hk : ops.size = k) (hm : P.follows .mixedOrders = true) (h : Any P n ops Q c L [] k (Array.replicate k false) e) :
    Ent c L (WP P n (.region id ops true) Q) e := fun _ hs => WP.draw hm (by subst hk; exact h.2 _ (hs.drew _))
/-- two codes: the second is kept behind a name -/
theorem Cd.seq {x y : Code} (h : ∀ K : EW, (∀ {e' : Env} {L' : List Pt}, Ent c L' (WP P n y Q) e' → Ent c L' K e') → Ent c L (WP P n x { Q with nor := K }) e) :
    Ent c L (WP P n (.seq x y) Q) e := fun w hs => WP.seq (h _ (fun h => h) w hs)
theorem Cd.skip (h : Ent c L Q.nor e) : Ent c L (WP P n .skip Q) e := fun w hs => WP.skip (h w hs)
theorem Cd.exit {id : Nat} (h : Ent c L (Q.ex id) e) : Ent c L (WP P n (.exit id) Q) e := fun w hs => WP.exit (h w hs)
theorem Cd.ret (h : Ent c L Q.ret e) : Ent c L (WP P n .ret Q) e := fun w hs => WP.ret (h w hs)
theorem Cd.block {id : Nat} {x : Code} (h : Ent c L (WP P n x { Q with ex := fun i => bif Nat.beq i id then Q.nor else Q.ex i }) e) : Ent c L (WP P n (.block id x) Q) e := fun w hs => WP.block (h w hs)
theorem Cd.condT {o : Operand} {x y : Code} (ho : ev e o = .bool true) (h : Ent c L (WP P n x Q) e) : Ent c L (WP P n (.cond o x y) Q) e := fun w hs => WP.condT ho (h w hs)
theorem Cd.condF {o : Operand} {x y : Code} (ho : ev e o = .bool false) (h : Ent c L (WP P n y Q) e) : Ent c L (WP P n (.cond o x y) Q) e := fun w hs => WP.condF ho (h w hs)
theorem Cd.cond {o : Operand} {x y : Code} (b : Bool) (ho : ev e o = .bool b) (ht : b = true → Ent c L (WP P n x Q) e) (hf : b = false → Ent c L (WP P n y Q) e) :
    Ent c L (WP P n (.cond o x y) Q) e := by
  cases b
  · exact Cd.condF ho (hf rfl)
  · exact Cd.condT ho (ht rfl)
/-- a test on a proposition -/
theorem Cd.if {o : Operand} {x y : Code} (p : Prop) [Decidable p] (ho : ev e o = .bool (decide p)) (ht : p → Ent c L (WP P n x Q) e) (hf : ¬ p → Ent c L (WP P n y Q) e) :
    Ent c L (WP P n (.cond o x y) Q) e :=
  Cd.cond _ ho (fun h => ht (of_decide_eq_true h)) (fun h => hf (of_decide_eq_false h))
theorem Cd.ifn {o : Operand} {x y : Code} (p : Prop) [Decidable p] (ho : ev e o = .bool (!decide p)) (ht : ¬ p → Ent c L (WP P n x Q) e) (hf : p → Ent c L (WP P n y Q) e) :
    Ent c L (WP P n (.cond o x y) Q) e :=
  Cd.cond _ ho (fun h => ht (by simpa using h)) (fun h => hf (by simpa using h))
theorem Cd.loop {x : Code} (I : Nat → Env → List Pt → Prop) (m : Nat) (h0 : I m e L)
    (round : ∀ m e L, I m e L → ∀ K : EW, (∀ {e' : Env} {L' : List Pt} (m' : Nat), m' < m → I m' e' L' → Ent c L' K e') → Ent c L (WP P n x { Q with nor := K }) e) : Ent c L (WP P n (.loop x) Q) e :=
  fun w hs => WP.loop (fun m e w => ∃ L, I m e L ∧ St c L w) m ⟨L, h0, hs⟩ fun m e _ ⟨L, hI, hs⟩ =>
    round m e L hI _ (fun {_} {L'} m' hm h _ hw => ⟨m', hm, L', h, hw⟩) _ hs

/-! ## functions -/
/-- the results that a frame holds -/
def ResOk (P : Program) (fn : Func) (c : Cx) (L : List Pt) (e : Env) (v : Value) : Prop := ∀ w, St c L w → (resE fn e).run P w = .ok v w

theorem Fn.enter {f : FuncId} {fn : Func} {x : Code} {args : List Value} {post : Value → List Pt → Prop} (hf : P.funcs[f]? = some fn) (hb : fn.body = some x)
    (n : Nat) (hn : fn.ntmps = n) (hl : args.length.ble n = true)
    (h : ∀ R : EW, (∀ {e : Env} {L' : List Pt} (v : Value) (L'' : List Pt), ResOk P fn c L' e v → post v L'' → L''.Sublist L' → Ent c L' R e) → Ent c L (WP P ⟨n, []⟩ x (retP R)) (argE args)) :
    Fn P f args.toArray c L post := by
  subst hn
  intro w hs
  refine (calls_enter (K := fun v w => ∃ L', post v L' ∧ St c L' w) hf hb (Nat.le_of_ble_eq_true hl) (h _ ?_ w hs)).mono fun x w' ⟨v, h1, L', h2, h3⟩ => ⟨v, h1, L', h2, h3⟩
  intro e L' v L'' hr hp hsub w hw
  exact ⟨v, hr w hw, L'', hp, hw.sub hsub⟩

theorem Res.zero {fn : Func} (hr : fn.results = #[]) : ResOk P fn c L e (.tuple #[]) := fun w _ => by simp [resE, hr]
theorem Res.one {fn : Func} {t : Tmp} {v : Value} (hr : fn.results = #[.tmp t]) (hv : e t = v) : ResOk P fn c L e v := fun w _ => by
  subst hv; simp [resE, hr]
theorem Res.two {fn : Func} {t u : Tmp} {v v' : Value} (hr : fn.results = #[.tmp t, .tmp u]) (hv : e t = v) (hv' : e u = v') : ResOk P fn c L e (.tuple #[v, v']) := fun w _ => by
  subst hv hv'; simp [resE, hr]
theorem Res.three {fn : Func} {t u s : Tmp} {v v' v'' : Value} (hr : fn.results = #[.tmp t, .tmp u, .tmp s]) (hv : e t = v) (hv' : e u = v') (hv'' : e s = v'') :
    ResOk P fn c L e (.tuple #[v, v', v'']) := fun w _ => by
  subst hv hv' hv''; simp [resE, hr]
end ops
end Go.X

/- The engine, part 3: what single operations do. -/
namespace Go.X

section
variable {P : Program} {n : Sz} {e : Env} {d : Option Tmp} {ty : TypeId} {p : String} {af : Array Edge} {g : Option (Nat × Bool)}
variable {c : Cx} {L : List Pt} {x y z : Operand} {v v' : Value}

/-! ## literal rows -/
theorem r1_0 {a0 : Value} : (#[a0] : Array Value)[0]? = some a0 := rfl
theorem r2_0 {a0 a1 : Value} : (#[a0, a1] : Array Value)[0]? = some a0 := rfl
theorem r2_1 {a0 a1 : Value} : (#[a0, a1] : Array Value)[1]? = some a1 := rfl
theorem r3_0 {a0 a1 a2 : Value} : (#[a0, a1, a2] : Array Value)[0]? = some a0 := rfl
theorem r3_1 {a0 a1 a2 : Value} : (#[a0, a1, a2] : Array Value)[1]? = some a1 := rfl
theorem r3_2 {a0 a1 a2 : Value} : (#[a0, a1, a2] : Array Value)[2]? = some a2 := rfl
theorem r4_0 {a0 a1 a2 a3 : Value} : (#[a0, a1, a2, a3] : Array Value)[0]? = some a0 := rfl
theorem r4_1 {a0 a1 a2 a3 : Value} : (#[a0, a1, a2, a3] : Array Value)[1]? = some a1 := rfl
theorem r4_2 {a0 a1 a2 a3 : Value} : (#[a0, a1, a2, a3] : Array Value)[2]? = some a2 := rfl
theorem r4_3 {a0 a1 a2 a3 : Value} : (#[a0, a1, a2, a3] : Array Value)[3]? = some a3 := rfl
/-! ## moves -/
theorem O.move (hx : ev e x = v) : Rn0 P e ⟨d, .move x, ty, p, af, g⟩ v := fun w => by subst hx; rfl
theorem O.assign (hx : ev e x = v) : Rn0 P e ⟨d, .assign x, ty, p, af, g⟩ v := fun w => by subst hx; rfl
theorem O.pickT (hx : ev e x = .bool true) (hy : ev e y = v) : Rn0 P e ⟨d, .pick x y z, ty, p, af, g⟩ v := fun w => by
  subst hy; simp [execOp, hx, asBool]
theorem O.pickF (hx : ev e x = .bool false) (hz : ev e z = v) : Rn0 P e ⟨d, .pick x y z, ty, p, af, g⟩ v := fun w => by
  subst hz; simp [execOp, hx, asBool]
theorem O.nilP {a : Addr} (hx : ev e x = .pointer (some a)) : Rn0 P e ⟨d, .nilCheck x, ty, p, af, g⟩ (.pointer (some a)) := fun w => by
  simp [execOp, hx]
theorem O.ext {vs : Array Value} {i : Nat} (hx : ev e x = .tuple vs) (hv : vs[i]? = some v) : Rn0 P e ⟨d, .extract x i, ty, p, af, g⟩ v := fun w => by
  simp [execOp, hx, Instr.extract, hv]
theorem O.mkFunc {f : FuncId} {fs cs : Array Operand} {fs' cs' : Array Value} (h1 : fs.map (ev e) = fs') (h2 : cs.map (ev e) = cs') :
    Rn0 P e ⟨d, .makeFunc (.func f) fs cs, ty, p, af, g⟩ (.func (.func f) fs' cs') := fun w => by
  subst h1 h2; simp [execOp, Instr.makeFunc]

/-! ## types -/
def kindOf (P : Program) (t : TypeId) : Option (Bool × Nat) :=
  match P.underlying t, P.info? t with
  | some (.struct _), some i => some (true, i.size)
  | some (.array _ _), some i => some (true, i.size)
  | some _, some i => some (false, i.size)
  | _, _ => none
def fieldOff (P : Program) (s i : Nat) : Option Nat :=
  match P.underlying s with
  | some (.struct fs) => match fs[i]? with
    | some f => if P.cellsOf f.type = 0 then none else match P.info? f.type with
      | some _ => some f.offset
      | none => none
    | none => none
  | _ => none
def sliceOf (P : Program) (t : TypeId) : Option (TypeId × Nat) :=
  match P.underlying t with
  | some (.slice el) => match P.info? el with
    | some i => some (el, i.size)
    | none => none
  | _ => none
def arrayOf (P : Program) (t : TypeId) : Option (Nat × TypeId × Nat) :=
  match P.underlying t with
  | some (.array m el) => match P.info? el with
    | some i => some (m, el, i.size)
    | none => none
  | _ => none
def zeroOf (P : Program) (t : TypeId) : Option Value := (P.info? t).bind (·.zero)

theorem run_under {t : TypeId} {D : TypeDesc} (h : P.underlying t = some D) (w : World) : (underlying t).run P w = .ok D w := run_underlying h w
theorem run_info {t : TypeId} {i : TypeInfo} (h : P.info? t = some i) (w : World) : (typeInfo t).run P w = .ok i w := by
  simp [typeInfo, h]
theorem run_size {t : TypeId} {i : TypeInfo} (h : P.info? t = some i) (w : World) : (sizeOf t).run P w = .ok i.size w := by
  simp [sizeOf, run_info h]
theorem run_zero {t : TypeId} {z : Value} (h : zeroOf P t = some z) (w : World) : (zeroValue t).run P w = .ok z w := by
  unfold zeroOf at h
  cases hi : P.info? t with
  | none => simp [hi] at h
  | some i => simp only [hi, Option.bind_some] at h; simp [zeroValue, run_info hi, h]

theorem Addr.add_none (b o k : Nat) : (⟨b, o, none⟩ : Addr).add k = ⟨b, o + k, none⟩ := by
  unfold Addr.add; split
  · subst_vars; rfl
  · rfl

theorem O.field {s i k b o : Nat} (hf : fieldOff P s i = some k) (hx : ev e x = .pointer (some ⟨b, o, none⟩)) :
    Rn0 P e ⟨d, .fieldAddr s x i, ty, p, af, g⟩ (.pointer (some ⟨b, o + k, none⟩)) := fun w => by
  unfold fieldOff at hf
  split at hf
  · rename_i fs hu
    split at hf
    · rename_i f hfi
      split at hf
      · cases hf
      · rename_i hc
        split at hf
        · rename_i i hi
          have hk : f.offset = k := by simpa using hf
          have hsz : i.size ≠ 0 := by simpa [Program.cellsOf, hi] using hc
          simp [execOp, hx, Instr.fieldAt, run_under hu, hfi, Instr.sureAddr, fieldPlace, run_size hi, hsz, Addr.add_none, hk]
        · cases hf
    · cases hf
  · cases hf

theorem O.index {t el sz b o len cap : Nat} {k : IntKind} {i : Int} (ht : sliceOf P t = some (el, sz)) (hx : ev e x = .slice (some ⟨b, o, none⟩) len cap) (hy : ev e y = .int k i)
    (h0 : 0 ≤ i) (h1 : i < len) : Rn0 P e ⟨d, .indexAddr t x y, ty, p, af, g⟩ (.pointer (some ⟨b, o + i.toNat * sz, none⟩)) := fun w => by
  unfold sliceOf at ht
  split at ht
  · rename_i el' hu
    split at ht
    · rename_i inf hi
      obtain ⟨rfl, rfl⟩ : el' = el ∧ inf.size = sz := by simpa using ht
      simp [execOp, hx, hy, Instr.indexAt, asIntOf, run_under hu, h0, h1, run_size hi, Addr.add_none]
    · cases ht
  · cases ht

theorem O.indexA {t el m sz b o : Nat} {k : IntKind} {i : Int} (ht : arrayOf P t = some (m, el, sz)) (hx : ev e x = .pointer (some ⟨b, o, none⟩)) (hy : ev e y = .int k i)
    (h0 : 0 ≤ i) (h1 : i < m) : Rn0 P e ⟨d, .indexAddr t x y, ty, p, af, g⟩ (.pointer (some ⟨b, o + i.toNat * sz, none⟩)) := fun w => by
  unfold arrayOf at ht
  split at ht
  · rename_i m' el' hu
    split at ht
    · rename_i inf hi
      obtain ⟨rfl, rfl, rfl⟩ : m' = m ∧ el' = el ∧ inf.size = sz := by simpa using ht
      simp [execOp, hx, hy, Instr.indexAt, asIntOf, run_under hu, h0, h1, run_size hi, Addr.add_none, Instr.sureAddr]
    · cases ht
  · cases ht

/-! ## loads -/
theorem cell_get {w : World} {b o : Nat} {cs : Array Value} {el : TypeId} {fz : Nat × Nat} (h : w.heap[b]? = some (.cells cs el fz)) :
    w.cell? ⟨b, o, none⟩ = cs[o]? := by simp [World.cell?, h]

theorem run_isAgg {t : TypeId} {ag : Bool} {m : Nat} (h : kindOf P t = some (ag, m)) (w : World) : (isAgg t).run P w = .ok ag w := by
  unfold kindOf at h
  split at h <;> rename_i h1 h2 <;> first
    | (cases h; done)
    | (simp at h; obtain ⟨rfl, _⟩ := h; simp [isAgg, run_under h1])
    | (simp at h; obtain ⟨rfl, _⟩ := h; rename_i D i hs ha
       simp only [isAgg, Sem.run_bind, run_under h1, Result.andThen_ok]
       cases D <;> first | rfl | (exact (hs _ _ h1 h2).elim) | (exact (ha _ _ _ h1 h2).elim))
theorem kind_info {t : TypeId} {ag : Bool} {m : Nat} (h : kindOf P t = some (ag, m)) : ∃ i, P.info? t = some i ∧ i.size = m := by
  unfold kindOf at h
  split at h
  · rename_i i h1 h2; exact ⟨i, h2, by simpa using (by simpa using h : _ ∧ _).2⟩
  · rename_i i h1 h2; exact ⟨i, h2, by simpa using (by simpa using h : _ ∧ _).2⟩
  · rename_i i _ _ h1 h2; exact ⟨i, h2, by simpa using (by simpa using h : _ ∧ _).2⟩
  · cases h

theorem O.load {t m b o : Nat} {cs : Array Value} {el : TypeId} {fz : Nat × Nat} (ht : kindOf P t = some (false, m)) (hx : ev e x = .pointer (some ⟨b, o, none⟩))
    (hc : cs[o]? = some v) : Rn1 P e ⟨d, .load t x, ty, p, af, g⟩ b (.cells cs el fz) v := fun w hb => by
  simp [execOp, hx, Instr.loadAt, Instr.sureAddr, loadVar, run_isAgg ht, cell_get hb, hc]

theorem run_loadRow {w : World} {b o m : Nat} {cs : Array Value} {el : TypeId} {fz : Nat × Nat} (hb : w.heap[b]? = some (.cells cs el fz)) (hm : o + m ≤ cs.size) :
    (loadCells ⟨b, o, none⟩ m).run P w = .ok (cs.extract o (o + m)) w := by
  rw [run_loadCells w _ m (fun j => cs.getD (o + j) undef)]
  · congr 1
    apply Array.ext
    · simp; omega
    · intro i h1 h2
      simp only [List.size_toArray, List.length_map, List.length_range] at h1
      have h3 : o + i < cs.size := by omega
      simp [h3]
  · intro j hj
    have h3 : o + j < cs.size := by omega
    rw [Addr.add_none, cell_get hb]
    simp [h3]

theorem O.loadA {t m b o : Nat} {cs : Array Value} {el : TypeId} {fz : Nat × Nat} {out : Array Value} (ht : kindOf P t = some (true, m)) (hx : ev e x = .pointer (some ⟨b, o, none⟩))
    (hm : o + m ≤ cs.size) (ho : cs.extract o (o + m) = out) : Rn1 P e ⟨d, .load t x, ty, p, af, g⟩ b (.cells cs el fz) (.agg out) := fun w hb => by
  subst ho
  obtain ⟨i, hi, rfl⟩ := kind_info ht
  simp [execOp, hx, Instr.loadAt, Instr.sureAddr, loadVar, run_isAgg ht, run_size hi, run_loadRow hb hm]

/-! ## stores -/
theorem setCell_blk {w : World} {b o : Nat} {cs : Array Value} {el : TypeId} {fz : Nat × Nat} (hb : w.heap[b]? = some (.cells cs el fz)) (v : Value) :
    w.setCell ⟨b, o, none⟩ v = setBlk w b (.cells (cs.setIfInBounds o v) el fz) := by
  have hlt := lt_of_get hb
  unfold World.setCell setBlk
  congr 1
  apply Array.ext
  · simp
  · intro i h1 h2
    simp only [Array.size_modify] at h1
    by_cases hi : b = i
    · subst hi
      have : w.heap[b] = .cells cs el fz := by simpa [hlt] using hb
      simp [Array.getElem_modify, this]
    · have hne : (w.heap.setIfInBounds b (.cells (cs.setIfInBounds o v) el fz))[i] = w.heap[i] := by
        rw [Array.getElem_setIfInBounds_ne _ hi]
      rw [hne]
      simp [Array.getElem_modify, hi]

def putL (cs : Array Value) (o : Nat) : List Value → Array Value
  | [] => cs
  | v :: vs => putL (cs.setIfInBounds o v) (o + 1) vs

theorem setBlk_twice (w : World) (b : Nat) (o o' : Obj) : setBlk (setBlk w b o) b o' = setBlk w b o' := by
  simp [setBlk]
theorem setBlk_self {w : World} {b : Nat} {o : Obj} (h : w.heap[b]? = some o) : setBlk w b o = w := by
  have hlt := lt_of_get h
  have : w.heap[b] = o := by simpa [hlt] using h
  unfold setBlk
  have h2 : w.heap.setIfInBounds b o = w.heap := by
    apply Array.ext
    · simp
    · intro i h1 h2
      by_cases hi : b = i
      · subst hi; simp [this]
      · rw [Array.getElem_setIfInBounds_ne _ hi]
  rw [h2]
theorem setBlk_get {w : World} {b : Nat} {o o' : Obj} (h : w.heap[b]? = some o) : (setBlk w b o').heap[b]? = some o' := by
  simp [setBlk, lt_of_get h]

theorem run_store1 {w : World} {b o : Nat} {cs : Array Value} {el : TypeId} (hb : w.heap[b]? = some (.cells cs el (0, 0))) (ho : o < cs.size) (hv : v.oneCell' = true) :
    (store ⟨b, o, none⟩ v).run P w = .ok () (setBlk w b (.cells (cs.setIfInBounds o v) el (0, 0))) := by
  rw [run_store P w _ v _ hv, cell_get hb]
  have : cs[o]? = some cs[o] := by simp [ho]
  rw [this]
  have hf : w.frozen? ⟨b, o, none⟩ = false := by simp [World.frozen?, hb]
  simp only [hf, Bool.false_eq_true, if_false]
  rw [setCell_blk hb]

theorem run_storeL {b : Nat} {el : TypeId} : ∀ (vs : List Value) (w : World) (o i : Nat) (cs : Array Value), w.heap[b]? = some (.cells cs el (0, 0)) → o + i + vs.length ≤ cs.size →
    (∀ v ∈ vs, v.oneCell' = true) → (storeCells ⟨b, o, none⟩ vs i).run P w = .ok () (setBlk w b (.cells (putL cs (o + i) vs) el (0, 0)))
  | [], w, o, i, cs, hb, _, _ => by simp [storeCells, putL, setBlk_self hb]
  | v :: vs, w, o, i, cs, hb, hs, hv => by
    simp only [List.length_cons] at hs
    simp only [storeCells, Sem.run_bind, Addr.add_none]
    rw [run_store1 hb (by omega) (hv v (by simp))]
    simp only [Result.andThen_ok]
    rw [run_storeL vs _ o (i + 1) _ (setBlk_get hb) (by simp; omega) (fun v hm => hv v (by simp [hm]))]
    rw [setBlk_twice]
    rfl

theorem O.store {t m b o : Nat} {ag : Bool} {cs : Array Value} {el : TypeId} (ht : kindOf P t = some (ag, m)) (hx : ev e x = .pointer (some ⟨b, o, none⟩)) (hy : ev e y = v)
    (hm : v.cells.size = m) (hs : o + m ≤ cs.size) (hv : ∀ u ∈ v.cells.toList, Value.oneCell' u = true) {cs' : Array Value} (hc : putL cs o v.cells.toList = cs') :
    Es P e ⟨d, .store t x y, ty, p, af, g⟩ b (.cells cs el (0, 0)) (.cells cs' el (0, 0)) undef := fun w hb => by
  subst hc hy
  obtain ⟨i, hi, rfl⟩ := kind_info ht
  refine ⟨.skip, ?_, .inr ⟨rfl, rfl⟩⟩
  simp only [execOp, hx, Instr.storeAt, Instr.sureAddr, storeVar, Sem.run_bind, Sem.run_pure, Result.andThen_ok, run_size hi, hm, ne_eq, not_true_eq_false, if_false]
  have := run_storeL (P := P) (el := el) (ev e y).cells.toList w o 0 cs hb (by simp [hm]; omega) hv
  simp only [Nat.add_zero] at this
  rw [this]
  rfl

/-- a store of one cell -/
theorem O.store1 {t b o : Nat} {cs : Array Value} {el : TypeId} (ht : kindOf P t = some (false, 1)) (hx : ev e x = .pointer (some ⟨b, o, none⟩)) (hy : ev e y = v)
    (hs : o < cs.size) (hv : v.oneCell' = true) {cs' : Array Value} (hc : cs.setIfInBounds o v = cs') :
    Es P e ⟨d, .store t x y, ty, p, af, g⟩ b (.cells cs el (0, 0)) (.cells cs' el (0, 0)) undef := by
  have hcells : v.cells = #[v] := by cases v <;> first | rfl | (simp [Value.oneCell'] at hv)
  exact O.store ht hx hy (by simp [hcells]) (by omega) (by simp [hcells, hv]) (by simpa [hcells, putL] using hc)

/-! ## new blocks -/
theorem O.box {t : TypeId} (hx : ev e x = v) {cs : Array Value} (hc : v.cells = cs) : En P e ⟨d, .box t x, ty, p, af, g⟩ (.cells cs t (0, 0)) (fun b => .pointer (some ⟨b, 0, none⟩)) := fun w => by
  subst hx hc
  simp [execOp, Instr.box, newVar, newRow]
theorem O.alloc {t : TypeId} {z : Value} (hz : zeroOf P t = some z) {cs : Array Value} (hc : z.cells = cs) :
    En P e ⟨d, .alloc t, ty, p, af, g⟩ (.cells cs t (0, 0)) (fun b => .pointer (some ⟨b, 0, none⟩)) := fun w => by
  subst hc
  simp [execOp, Instr.alloc, run_zero hz, newVar, newRow]
theorem O.makeMap {t : TypeId} : En P e ⟨d, .makeMap t none, ty, p, af, g⟩ (.map #[] 0) (fun b => .map (some b)) := fun w => by
  simp [execOp, Instr.makeMap]

def placesOf (P : Program) (t : TypeId) : Option (Option (List (Nat × Nat)) × Nat) :=
  match P.underlying t with
  | some (.struct fs) => if fs.all (fun f => (P.info? f.type).isSome) then some (some (fs.toList.map fun f => (f.offset, P.cellsOf f.type)), 0) else none
  | some (.array _ el) => if (P.info? el).isSome then some (none, P.cellsOf el) else none
  | _ => none

theorem run_places (fs : List Field) (h : ∀ f ∈ fs, (P.info? f.type).isSome = true) (w : World) :
    (fs.toArray.mapM fun f : Field => do pure (f.offset, ← sizeOf f.type)).run P w = .ok (fs.map fun f => (f.offset, P.cellsOf f.type)).toArray w := by
  rw [List.mapM_toArray]
  have key : ∀ l : List Field, (∀ f ∈ l, (P.info? f.type).isSome = true) → (l.mapM fun f : Field => do pure (f.offset, ← sizeOf f.type)).run P w = .ok (l.map fun f => (f.offset, P.cellsOf f.type)) w := by
    intro l
    induction l with
    | nil => intro _; simp
    | cons f l ih =>
      intro h
      obtain ⟨i, hi⟩ := Option.isSome_iff_exists.1 (h f (by simp))
      rw [List.mapM_cons]
      simp only [Sem.run_bind, run_size hi, Result.andThen_ok, Sem.run_pure, ih (fun f hf => h f (by simp [hf])), List.map_cons]
      simp [Program.cellsOf, hi]
  simp only [Sem.run_map, key fs h, Result.andThen_ok]

/-- the cells of a literal -/
def builtOf (P : Program) (t : TypeId) (parts : List (Nat × Value)) : Option (Array Value) :=
  match zeroOf P t, placesOf P t with
  | some z, some (some pl, _) => Instr.fill (pl[·]?) z.cells parts
  | some z, some (none, sz) => Instr.fill (fun i => some (i * sz, sz)) z.cells parts
  | _, _ => none

theorem O.build {t : TypeId} {ps : Array (Nat × Operand)} {vs : List (Nat × Value)} (hps : (ps.map fun (i, x) => (i, ev e x)).toList = vs) {cs : Array Value} (hb : builtOf P t vs = some cs) :
    Rn0 P e ⟨d, .build t ps, ty, p, af, g⟩ (.agg cs) := fun w => by
  subst hps
  unfold builtOf at hb
  split at hb
  · rename_i z pl sz hz hp
    unfold placesOf at hp
    split at hp
    · rename_i fs hu
      split at hp
      · rename_i hall
        simp only [Option.some.injEq, Prod.mk.injEq] at hp
        obtain ⟨rfl, _⟩ := hp
        have hr := run_places (P := P) fs.toList (fun f hf => by simpa using (Array.all_eq_true_iff_forall_mem.1 hall f (by simpa using hf))) w
        simp only [Array.toArray_toList] at hr
        simp only [execOp, Instr.build, Sem.run_bind, run_zero hz, Result.andThen_ok, run_under hu, hr]
        simp only [List.getElem?_toArray, hb, Sem.run_pure, Result.andThen_ok]
      · cases hp
    · split at hp <;> simp at hp
    · cases hp
  · rename_i z sz hz hp
    unfold placesOf at hp
    split at hp
    · split at hp <;> simp at hp
    · rename_i m el hu
      split at hp
      · rename_i hi
        simp only [Option.some.injEq, Prod.mk.injEq, true_and] at hp
        subst hp
        obtain ⟨i, hi⟩ := Option.isSome_iff_exists.1 hi
        simp only [Program.cellsOf, hi, Option.map_some, Option.getD_some] at hb
        simp only [execOp, Instr.build, Sem.run_bind, run_zero hz, Result.andThen_ok, run_under hu, run_size hi, hb, Sem.run_pure]
      · cases hp
    · cases hp
  · cases hb

/-! ## calls -/
def hasBody (P : Program) (f : FuncId) : Bool :=
  match P.funcs[f]? with
  | some fn => fn.body.isSome && !(fn.name == "runtime.NumGoroutine")
  | none => false
theorem run_callFunc {f : FuncId} (h : hasBody P f = true) (args : Array Value) (w : World) : (callFunc f args).run P w = .ok (.enter f args) w := by
  unfold hasBody at h
  cases hf : P.funcs[f]? with
  | none => simp [hf] at h
  | some fn =>
    simp only [hf, Bool.and_eq_true, Bool.not_eq_true'] at h
    have hb : fn.body.isNone = false := by cases hh : fn.body <;> simp_all
    simp only [callFunc, Sem.run_bind, run_program, Result.andThen_ok, hf, h.2, hb, Bool.false_eq_true, if_false, Sem.run_pure]

theorem O.call {f : FuncId} {xs : Array Operand} {tys : Array TypeId} {args : List Value} (hb : hasBody P f = true) (ha : xs.toList.map (ev e) = args) :
    Ec P e ⟨d, .call { callee := .value (.func f), args := xs, argTypes := tys }, ty, p, af, g⟩ f args.toArray := fun w => by
  subst ha
  have h1 : xs.map (ev e) = (xs.toList.map (ev e)).toArray := by apply Array.ext'; simp
  rw [← h1]
  simp [execOp, resolve, ev, Deferred.ofValue, invoke, run_callFunc hb]
/-- a call of a function value -/
theorem O.callV {f : FuncId} {xs : Array Operand} {tys : Array TypeId} {fs cs : Array Value} {args : List Value} (hb : hasBody P f = true) (hx : ev e x = .func (.func f) fs cs) (ha : fs.toList ++ xs.toList.map (ev e) ++ cs.toList = args) :
    Ec P e ⟨d, .call { callee := .value x, args := xs, argTypes := tys }, ty, p, af, g⟩ f args.toArray := fun w => by
  subst ha
  have h1 : fs ++ xs.map (ev e) ++ cs = (fs.toList ++ xs.toList.map (ev e) ++ cs.toList).toArray := by apply Array.ext'; simp
  rw [← h1]
  simp [execOp, resolve, hx, Deferred.ofValue, invoke, run_callFunc hb]

theorem Op.callF {K : Env → World → Prop} {f : FuncId} {xs : Array Operand} {tt : Array TypeId} {args : List Value} {post : Value → List Pt → Prop} (hd : dstOk n d = true) (hb : hasBody P f = true)
    (hf : Fn P f args.toArray c L post) (ha : xs.toList.map (ev e) = args) (k : ∀ v L', post v L' → Ent c L' K (updO e d v)) :
    Ent c L (OpS P n ⟨d, .call { callee := .value (.func f), args := xs, argTypes := tt }, ty, p, af, g⟩ K) e := Op.call hd (O.call hb ha) hf k
theorem Op.callV {K : Env → World → Prop} {f : FuncId} {xs : Array Operand} {tt : Array TypeId} {fs cs : Array Value} {args : List Value} {post : Value → List Pt → Prop} (hd : dstOk n d = true) (hb : hasBody P f = true)
    (hx : ev e x = .func (.func f) fs cs) (hf : Fn P f args.toArray c L post) (ha : fs.toList ++ xs.toList.map (ev e) ++ cs.toList = args) (k : ∀ v L', post v L' → Ent c L' K (updO e d v)) :
    Ent c L (OpS P n ⟨d, .call { callee := .value x, args := xs, argTypes := tt }, ty, p, af, g⟩ K) e := Op.call hd (O.callV hb hx ha) hf k

/-! ## numbers -/
theorem O.lss {t : TypeId} {k : IntKind} {a b : Int} (hx : ev e x = .int k a) (hy : ev e y = .int k b) {t' : TypeId} : Rn0 P e ⟨d, .binOp .lss t x y t', ty, p, af, g⟩ (.bool (decide (a < b))) := fun w => by
  simp [execOp, hx, hy, eqGuard, binOp, Op.intCmp]
theorem O.leq {t : TypeId} {k : IntKind} {a b : Int} (hx : ev e x = .int k a) (hy : ev e y = .int k b) {t' : TypeId} : Rn0 P e ⟨d, .binOp .leq t x y t', ty, p, af, g⟩ (.bool (decide (a ≤ b))) := fun w => by
  simp [execOp, hx, hy, eqGuard, binOp, Op.intCmp]
theorem O.gtr {t : TypeId} {k : IntKind} {a b : Int} (hx : ev e x = .int k a) (hy : ev e y = .int k b) {t' : TypeId} : Rn0 P e ⟨d, .binOp .gtr t x y t', ty, p, af, g⟩ (.bool (decide (b < a))) := fun w => by
  simp [execOp, hx, hy, eqGuard, binOp, Op.intCmp]
theorem O.geq {t : TypeId} {k : IntKind} {a b : Int} (hx : ev e x = .int k a) (hy : ev e y = .int k b) {t' : TypeId} : Rn0 P e ⟨d, .binOp .geq t x y t', ty, p, af, g⟩ (.bool (decide (b ≤ a))) := fun w => by
  simp [execOp, hx, hy, eqGuard, binOp, Op.intCmp]
theorem beq_dec (a b : Int) : (a == b) = decide (a = b) := by by_cases h : a = b <;> simp [h]
theorem O.eqI {t : TypeId} {k : IntKind} {a b : Int} (hx : ev e x = .int k a) (hy : ev e y = .int k b) {t' : TypeId} : Rn0 P e ⟨d, .binOp .eql t x y t', ty, p, af, g⟩ (.bool (decide (a = b))) := fun w => by
  rw [← beq_dec]
  simp [execOp, hx, hy, eqGuard, binOp, Op.intCmp]
theorem O.neI {t : TypeId} {k : IntKind} {a b : Int} (hx : ev e x = .int k a) (hy : ev e y = .int k b) {t' : TypeId} : Rn0 P e ⟨d, .binOp .neq t x y t', ty, p, af, g⟩ (.bool (!decide (a = b))) := fun w => by
  rw [← beq_dec]
  simp [execOp, hx, hy, eqGuard, binOp, Op.intCmp, bne]
theorem wrap64_id {a : Int} (h0 : -9223372036854775808 ≤ a) (h1 : a < 9223372036854775808) : IntKind.i64.wrap a = a := by
  have h2 : IntKind.i64.wrap a = (if a % 18446744073709551616 ≥ 9223372036854775808 then a % 18446744073709551616 - 18446744073709551616 else a % 18446744073709551616) := by
    simp [IntKind.wrap, IntKind.bits, IntKind.signed]
  rw [h2]; split <;> omega
theorem O.add {t : TypeId} {a b : Int} (hx : ev e x = .int .i64 a) (hy : ev e y = .int .i64 b) {t' : TypeId} (h0 : -9223372036854775808 ≤ a + b) (h1 : a + b < 9223372036854775808) :
    Rn0 P e ⟨d, .binOp .add t x y t', ty, p, af, g⟩ (.int .i64 (a + b)) := fun w => by
  simp [execOp, hx, hy, eqGuard, binOp, Op.intArith, wrap64_id h0 h1]
theorem O.sub {t : TypeId} {a b : Int} (hx : ev e x = .int .i64 a) (hy : ev e y = .int .i64 b) {t' : TypeId} (h0 : -9223372036854775808 ≤ a - b) (h1 : a - b < 9223372036854775808) :
    Rn0 P e ⟨d, .binOp .sub t x y t', ty, p, af, g⟩ (.int .i64 (a - b)) := fun w => by
  simp [execOp, hx, hy, eqGuard, binOp, Op.intArith, wrap64_id h0 h1]
theorem O.not {t : TypeId} {b : Bool} (hx : ev e x = .bool b) : Rn0 P e ⟨d, .unOp .not t x, ty, p, af, g⟩ (.bool (!b)) := fun w => by
  simp [execOp, hx, Op.unary]

/-! ## comparing -/
def isDesc (P : Program) (t : TypeId) : Nat :=
  match P.underlying t with
  | some .bool => 1 | some (.int _) => 2 | some .string => 3 | some (.pointer _) => 4 | some (.slice _) => 5 | some (.map _ _) => 6 | some (.func _ _ _) => 7
  | some (.array _ _) => 8 | some (.struct _) => 9
  | _ => 0
theorem desc_ptr {t : TypeId} (h : isDesc P t = 4) : ∃ el, P.underlying t = some (.pointer el) := by
  unfold isDesc at h; split at h <;> first | (cases h; done) | (exact ⟨_, ‹_›⟩)
theorem desc_str {t : TypeId} (h : isDesc P t = 3) : P.underlying t = some .string := by
  unfold isDesc at h; split at h <;> first | (cases h; done) | assumption
theorem desc_bool {t : TypeId} (h : isDesc P t = 1) : P.underlying t = some .bool := by
  unfold isDesc at h; split at h <;> first | (cases h; done) | assumption
theorem desc_map {t : TypeId} (h : isDesc P t = 6) : ∃ k el, P.underlying t = some (.map k el) := by
  unfold isDesc at h; split at h <;> first | (cases h; done) | (exact ⟨_, _, ‹_›⟩)
theorem desc_slice {t : TypeId} (h : isDesc P t = 5) : ∃ el, P.underlying t = some (.slice el) := by
  unfold isDesc at h; split at h <;> first | (cases h; done) | (exact ⟨_, ‹_›⟩)

theorem run_binop {op : BinOp} {t t' : TypeId} {w : World} {a b : Value} (hx : ev e x = a) (hy : ev e y = b) (hg : (eqGuard op t x y a b).run P w = .ok () w) (hb : (binOp op t a b).run P w = .ok v w) :
    (execOp (ev e) ⟨d, .binOp op t x y t', ty, p, af, g⟩).run P w = .ok (.value v) w := by
  subst hx hy
  simp only [execOp, Sem.run_bind, hg, hb, Result.andThen_ok, Sem.run_pure]
theorem eqIn_ptr (k : Nat) {t el : TypeId} (hu : P.underlying t = some (.pointer el)) (a : Option Addr) (w : World) : (Op.equalIn (k + 1) t (.pointer a) (.pointer none)).run P w = .ok a.isNone w := by
  cases a <;> simp [Op.equalIn, run_under hu]
theorem eq_ptr {t el : TypeId} (hu : P.underlying t = some (.pointer el)) (a : Option Addr) (w : World) : (Op.equal t (.pointer a) (.pointer none)).run P w = .ok a.isNone w := eqIn_ptr 9999 hu a w
theorem eqIn_bool (k : Nat) {t : TypeId} (hu : P.underlying t = some .bool) (a b : Bool) (w : World) : (Op.equalIn (k + 1) t (.bool a) (.bool b)).run P w = .ok (a == b) w := by
  simp only [Op.equalIn, Sem.run_bind, run_under hu, Result.andThen_ok, Sem.run_pure]
theorem eq_bool {t : TypeId} (hu : P.underlying t = some .bool) (a b : Bool) (w : World) : (Op.equal t (.bool a) (.bool b)).run P w = .ok (a == b) w := eqIn_bool 9999 hu a b w
theorem run_eql {t : TypeId} {a b : Value} {r : Bool} {w : World} (hb : binOp .eql t a b = do pure (.bool (← Op.equal t a b))) (h : (Op.equal t a b).run P w = .ok r w) : (binOp .eql t a b).run P w = .ok (.bool r) w := by
  rw [hb]; simp only [Sem.run_bind, h, Result.andThen_ok, Sem.run_pure]
theorem run_neq {t : TypeId} {a b : Value} {r : Bool} {w : World} (hb : binOp .neq t a b = do pure (.bool (!(← Op.equal t a b)))) (h : (Op.equal t a b).run P w = .ok r w) : (binOp .neq t a b).run P w = .ok (.bool (!r)) w := by
  rw [hb]; simp only [Sem.run_bind, h, Result.andThen_ok, Sem.run_pure]

theorem O.eqNil {t : TypeId} {a : Option Addr} (ht : isDesc P t = 4) (hx : ev e x = .pointer a) (hy : ev e y = .pointer none) {t' : TypeId} :
    Rn0 P e ⟨d, .binOp .eql t x y t', ty, p, af, g⟩ (.bool a.isNone) := fun w => by
  obtain ⟨el, hu⟩ := desc_ptr ht
  exact run_binop hx hy rfl (run_eql rfl (eq_ptr hu a w))
theorem str_dec (a b : ByteArray) : (a.toList == b.toList) = decide (a = b) := by
  rw [← beq_toListBytes]
  obtain ⟨x⟩ := a
  obtain ⟨y⟩ := b
  show (x == y) = _
  by_cases h : x = y
  · subst h; simp
  · simp [h]
theorem O.eqS {t : TypeId} {a b : ByteArray} (hx : ev e x = .string a) (hy : ev e y = .string b) {t' : TypeId} :
    Rn0 P e ⟨d, .binOp .eql t x y t', ty, p, af, g⟩ (.bool (decide (a = b))) := fun w => by rw [← str_dec]; exact run_binop hx hy rfl rfl
theorem O.neS {t : TypeId} {a b : ByteArray} (hx : ev e x = .string a) (hy : ev e y = .string b) {t' : TypeId} :
    Rn0 P e ⟨d, .binOp .neq t x y t', ty, p, af, g⟩ (.bool (!decide (a = b))) := fun w => by rw [← str_dec]; exact run_binop hx hy rfl rfl
theorem O.eqB {t : TypeId} {a b : Bool} (ht : isDesc P t = 1) (hx : ev e x = .bool a) (hy : ev e y = .bool b) {t' : TypeId} :
    Rn0 P e ⟨d, .binOp .eql t x y t', ty, p, af, g⟩ (.bool (a == b)) := fun w => run_binop hx hy rfl (run_eql rfl (eq_bool (desc_bool ht) a b w))
/-! ## results in memory -/
theorem Res.cell {fn : Func} {t m b : Nat} {ty : TypeId} {cs out : Array Value} {el : TypeId} {fz : Nat × Nat} (hr : fn.results = #[.cell t ty]) (hk : kindOf P ty = some (true, m))
    (hv : e t = .pointer (some ⟨b, 0, none⟩)) (hb : Rd c L b (.cells cs el fz)) (hm : cs.size = m) : ResOk P fn c L e (.agg cs) := fun w hw => by
  subst hm
  obtain ⟨i, hi, hsz⟩ := kind_info hk
  have h2 := run_loadRow (P := P) (o := 0) (m := cs.size) (hb w hw) (by omega)
  simp [resE, hr, hv, asAddr, loadVar, run_isAgg hk, run_size hi, hsz, h2]
theorem Res.cell2 {fn : Func} {t u m b : Nat} {ty : TypeId} {cs : Array Value} {v : Value} {el : TypeId} {fz : Nat × Nat} (hr : fn.results = #[.cell t ty, .tmp u]) (hk : kindOf P ty = some (true, m))
    (hv : e t = .pointer (some ⟨b, 0, none⟩)) (hu : e u = v) (hb : Rd c L b (.cells cs el fz)) (hm : cs.size = m) : ResOk P fn c L e (.tuple #[.agg cs, v]) := fun w hw => by
  subst hm hu
  obtain ⟨i, hi, hsz⟩ := kind_info hk
  have h2 := run_loadRow (P := P) (o := 0) (m := cs.size) (hb w hw) (by omega)
  simp [resE, hr, hv, asAddr, loadVar, run_isAgg hk, run_size hi, hsz, h2]
/-! ## len -/
theorem O.lenS {t : TypeId} {a : Option Addr} {m cap : Nat} (ht : isDesc P t = 5) (hx : ev e x = .slice a m cap) :
    Rn0 P e ⟨d, .call { callee := .builtin .len, args := #[x], argTypes := #[t] }, ty, p, af, g⟩ (.int .i64 m) := fun w => by
  obtain ⟨el, hu⟩ := desc_slice ht
  simp [execOp, resolve, invoke, builtin, Builtin.len_, hx, run_under hu, goInt]
theorem O.lenT {t : TypeId} {s : ByteArray} (ht : isDesc P t = 3) (hx : ev e x = .string s) :
    Rn0 P e ⟨d, .call { callee := .builtin .len, args := #[x], argTypes := #[t] }, ty, p, af, g⟩ (.int .i64 s.size) := fun w => by
  have hu := desc_str ht
  simp [execOp, resolve, invoke, builtin, Builtin.len_, hx, run_under hu, goInt]
theorem O.lenM {t : TypeId} {b : Nat} {es : Array MapEntry} {ck : Nat} (ht : isDesc P t = 6) (hx : ev e x = .map (some b)) :
    Rn1 P e ⟨d, .call { callee := .builtin .len, args := #[x], argTypes := #[t] }, ty, p, af, g⟩ b (.map es ck) (.int .i64 es.size) := fun w hb => by
  obtain ⟨k, el, hu⟩ := desc_map ht
  simp [execOp, resolve, invoke, builtin, Builtin.len_, hx, run_under hu, goInt, getObj, Sem.run, hb]
end
end Go.X

/- The engine, part 4: slices, bytes, equality of keys, functions without a body. -/
namespace Go.X
section
variable {P : Program} {n : Sz} {e : Env} {d : Option Tmp} {ty : TypeId} {p : String} {af : Array Edge} {g : Option (Nat × Bool)}
variable {c : Cx} {L : List Pt} {x y z : Operand} {v v' : Value}

/-! ## slicing -/
theorem array_parts {t m el sz : Nat} (h : arrayOf P t = some (m, el, sz)) : P.underlying t = some (.array m el) ∧ ∃ i, P.info? el = some i ∧ i.size = sz := by
  unfold arrayOf at h
  split at h
  · rename_i m' el' hu
    split at h
    · rename_i i hi
      obtain ⟨rfl, rfl, rfl⟩ : m' = m ∧ el' = el ∧ i.size = sz := by simpa using h
      exact ⟨hu, i, hi, rfl⟩
    · cases h
  · cases h
theorem slice_parts {t el sz : Nat} (h : sliceOf P t = some (el, sz)) : P.underlying t = some (.slice el) ∧ ∃ i, P.info? el = some i ∧ i.size = sz := by
  unfold sliceOf at h
  split at h
  · rename_i el' hu
    split at h
    · rename_i i hi
      obtain ⟨rfl, rfl⟩ : el' = el ∧ i.size = sz := by simpa using h
      exact ⟨hu, i, hi, rfl⟩
    · cases h
  · cases h

/-- 'a[:]' of an array in memory -/
theorem O.sliceA {t m el sz b o : Nat} (ht : arrayOf P t = some (m, el, sz)) (hx : ev e x = .pointer (some ⟨b, o, none⟩)) :
    Rn0 P e ⟨d, .slice t x none none none, ty, p, af, g⟩ (.slice (some ⟨b, o, none⟩) m m) := fun w => by
  obtain ⟨hu, i, hi, rfl⟩ := array_parts ht
  simp [execOp, Instr.sliceAt, run_under hu, hx, Instr.sureAddr, Instr.sliceBounds, run_size hi, Addr.add_none]
/-- 'a[:h]' of an array in memory -/
theorem O.sliceAH {t m el sz b o : Nat} {k : IntKind} {i : Int} (ht : arrayOf P t = some (m, el, sz)) (hx : ev e x = .pointer (some ⟨b, o, none⟩)) (hy : ev e y = .int k i) (h0 : 0 ≤ i) (h1 : i ≤ m) :
    Rn0 P e ⟨d, .slice t x none (some y) none, ty, p, af, g⟩ (.slice (some ⟨b, o, none⟩) i.toNat m) := fun w => by
  obtain ⟨hu, j, hi, rfl⟩ := array_parts ht
  simp [execOp, Instr.sliceAt, run_under hu, hx, hy, Instr.sureAddr, Instr.sliceBounds, Instr.sliceBound, asIntOf, h0, h1, run_size hi, Addr.add_none]
/-- 's[:h]' -/
theorem O.sliceH {t el sz len cap : Nat} {a : Option Addr} {k : IntKind} {i : Int} (ht : sliceOf P t = some (el, sz)) (hx : ev e x = .slice a len cap) (hy : ev e y = .int k i) (h0 : 0 ≤ i) (h1 : i ≤ cap)
    (ha : ∀ q, a = some q → q.spot = none) :
    Rn0 P e ⟨d, .slice t x none (some y) none, ty, p, af, g⟩ (.slice a i.toNat cap) := fun w => by
  obtain ⟨hu, j, hi, rfl⟩ := slice_parts ht
  have hadd : a.map (fun q => q.add (0 * j.size)) = a := by
    cases a with
    | none => rfl
    | some q => simp [Addr.add]
  by_cases hc : cap = 0
  · simp [execOp, Instr.sliceAt, Instr.slice, run_under hu, hx, hy, Instr.sliceBounds, Instr.sliceBound, asIntOf, h0, h1, run_size hi, hc]
    omega
  · simp only [Nat.zero_mul] at hadd
    simp [execOp, Instr.sliceAt, Instr.slice, run_under hu, hx, hy, Instr.sliceBounds, Instr.sliceBound, asIntOf, h0, h1, run_size hi, hc, hadd]
/-- 's[l:]' -/
theorem O.sliceL {t el sz len cap b o : Nat} {k : IntKind} {i : Int} (ht : sliceOf P t = some (el, sz)) (hx : ev e x = .slice (some ⟨b, o, none⟩) len cap) (hy : ev e y = .int k i) (h0 : 0 ≤ i) (h1 : i ≤ len) :
    Rn0 P e ⟨d, .slice t x (some y) none none, ty, p, af, g⟩ (.slice (some (if cap = i.toNat then ⟨b, o, none⟩ else ⟨b, o + i.toNat * sz, none⟩)) (len - i.toNat) (cap - i.toNat)) := fun w => by
  obtain ⟨hu, j, hi, rfl⟩ := slice_parts ht
  by_cases hc : cap = i.toNat
  · simp [execOp, Instr.sliceAt, Instr.slice, run_under hu, hx, hy, Instr.sliceBounds, Instr.sliceBound, asIntOf, h0, h1, run_size hi, hc]
  · simp [execOp, Instr.sliceAt, Instr.slice, run_under hu, hx, hy, Instr.sliceBounds, Instr.sliceBound, asIntOf, h0, h1, run_size hi, hc, Addr.add_none]

/-! ## slices' literals -/
def builtSliceOf (P : Program) (t len : Nat) (parts : List (Nat × Value)) : Option (TypeId × Array Value) :=
  match sliceOf P t with
  | some (el, sz) =>
    if len * sz > 16777216 then none else
    match (if len * sz = 0 then some #[] else (zeroOf P el).map (·.cells)) with
    | some zero => (Instr.fill (fun i => some (i * sz, sz)) ((List.range (len * sz)).map (fun i => zero[i % zero.size]!)).toArray parts).map fun cs => (el, cs)
    | none => none
  | none => none
theorem O.buildSlice {t len el : Nat} {ps : Array (Nat × Operand)} {vs : List (Nat × Value)} (hps : ps.toList.map (fun q => (q.1, ev e q.2)) = vs) {cs : Array Value} (hb : builtSliceOf P t len vs = some (el, cs)) :
    En P e ⟨d, .buildSlice t len ps, ty, p, af, g⟩ (.cells cs el (0, 0)) (fun b => .slice (some ⟨b, 0, none⟩) len len) := fun w => by
  subst hps
  unfold builtSliceOf at hb
  split at hb
  · rename_i el' sz hs
    obtain ⟨hu, i, hi, rfl⟩ := slice_parts hs
    split at hb
    · cases hb
    · rename_i hlen
      split at hb
      · rename_i zero hz
        simp only [Option.map_eq_some_iff, Prod.mk.injEq] at hb
        obtain ⟨cs', hf, rfl, rfl⟩ := hb
        have hq : (ps.map fun (i, x) => (i, ev e x)).toList = ps.toList.map (fun q => (q.1, ev e q.2)) := by simp
        have hr : (Array.range (len * i.size)).map (fun i => zero[i % zero.size]!) = ((List.range (len * i.size)).map (fun i => zero[i % zero.size]!)).toArray := by
          apply Array.ext'; simp
        have hl2 : ¬ (len * i.size > 2 ^ 24) := by simpa using hlen
        by_cases h0 : len * i.size = 0
        · rw [if_pos h0] at hz
          obtain rfl := Option.some.inj hz
          simp only [execOp, Instr.buildSlice, Sem.run_bind, run_under hu, Result.andThen_ok, run_size hi, Sem.run_pure, h0, if_true, hq, show ¬ ((0 : Nat) > 2 ^ 24) by decide, if_false, Sem.run_ite]
          rw [h0] at hf hr
          rw [hr, hf]
          rfl
        · rw [if_neg h0] at hz
          simp only [Option.map_eq_some_iff] at hz
          obtain ⟨z, hz, rfl⟩ := hz
          simp only [execOp, Instr.buildSlice, Sem.run_bind, run_under hu, Result.andThen_ok, run_size hi, hl2, if_false, Sem.run_pure, h0, run_zero hz, hq]
          rw [hr, hf]
          rfl
      · cases hb
  · cases hb

/-! ## bytes -/
def byteV (x : UInt8) : Value := .int .u8 (x.toNat : Int)
theorem run_loadBytes {w : World} {b : Nat} {cs : Array Value} {el : TypeId} {fz : Nat × Nat} (hb : w.heap[b]? = some (.cells cs el fz)) :
    ∀ (l : List UInt8) (o : Nat) (acc : ByteArray), (∀ j x, l[j]? = some x → cs[o + j]? = some (byteV x)) →
      (Extern.Bytes.loadBytes ⟨b, o, none⟩ l.length acc).run P w = .ok ⟨acc.data ++ l.toArray⟩ w
  | [], o, acc, _ => by simp [Extern.Bytes.loadBytes]
  | x :: l, o, acc, h => by
    have h0 := h 0 x rfl
    simp only [Nat.add_zero] at h0
    have ih := run_loadBytes hb l (o + 1) (acc.push x) (fun j y hj => by have := h (j + 1) y (by simpa using hj); rwa [show o + (j + 1) = o + 1 + j by omega] at this)
    simp only [List.length_cons, Extern.Bytes.loadBytes, Sem.run_bind, run_load, cell_get hb, h0, byteV, Result.andThen_ok, Addr.add_none]
    have hx : ((x.toNat : Int).toNat).toUInt8 = x := by simp
    rw [hx]
    rw [ih]
    simp [ByteArray.push]
theorem run_bytesOf {w : World} {b o cap : Nat} {cs : Array Value} {el : TypeId} {fz : Nat × Nat} (hb : w.heap[b]? = some (.cells cs el fz)) (l : List UInt8)
    (h : ∀ j x, l[j]? = some x → cs[o + j]? = some (byteV x)) : (Extern.Bytes.bytesOf (.slice (some ⟨b, o, none⟩) l.length cap)).run P w = .ok ⟨l.toArray⟩ w := by
  have := run_loadBytes (P := P) hb l o .empty h
  simp only [Extern.Bytes.bytesOf, this]
  have h2 : ByteArray.empty.data ++ l.toArray = l.toArray := by show (#[] : Array UInt8) ++ l.toArray = l.toArray; simp
  rw [h2]

/-- a function without a body -/
theorem run_ext {f : FuncId} {fn : Func} {r : Array Value → Sem Value} (hf : P.funcs[f]? = some fn) (hname : (fn.name == "runtime.NumGoroutine") = false)
    (hb : fn.body.isNone = true) (hn : Extern.findNext fn = none) (he : Extern.find fn = some r) {args : List Value} {xs : Array Operand} {tt : Array TypeId} (ha : xs.toList.map (ev e) = args)
    {w w' : World} (hr : (r args.toArray).run P w = .ok v w') :
    (execOp (ev e) ⟨d, .call { callee := .value (.func f), args := xs, argTypes := tt }, ty, p, af, g⟩).run P w = .ok (.value v) w' := by
  subst ha
  have h1 : xs.map (ev e) = (xs.toList.map (ev e)).toArray := by apply Array.ext'; simp
  have h2 := run_callFunc_extern hf hname hb hn he (xs.map (ev e)) w
  rw [h1, hr] at h2
  simp only [Result.andThen_ok] at h2
  simp only [execOp, resolve, ev, Deferred.ofValue, Sem.run_bind, Sem.run_pure, Result.andThen_ok, invoke, List.append_nil, Array.append_empty, Array.empty_append, h1]
  simpa using h2

/-! ## keys -/
/-- the values of enc are keys of type k, told apart by enc -/
structure IsKey (P : Program) (k : TypeId) {α : Type} (enc : α → Value) : Prop where
  law : Maps.Keyed P k
  key : ∀ a, ∃ l, keyOf P k (enc a) = some l
  inj : ∀ a b, enc a = enc b → a = b

theorem run_eqKey {α : Type} [DecidableEq α] {k : TypeId} {enc : α → Value} (K : IsKey P k enc) {m : Nat} (hm : m ≤ 10000) (hk : P.keyTypeAt m k = true)
    (hwide : (match P.underlying k with | some (.array _ _) | some (.struct _) => true | _ => false) = true) (a b : α) (w : World) :
    (Op.equal k (enc a) (enc b)).run P w = .ok (decide (a = b)) w := by
  obtain ⟨la, ha⟩ := K.key a
  obtain ⟨lb, hb⟩ := K.key b
  obtain ⟨r, hr, hiff⟩ := run_equal_deep w hm hk hwide ha hb
  rw [hr]
  congr 1
  rw [Bool.eq_iff_iff, hiff]
  simp only [decide_eq_true_eq]
  constructor
  · rintro rfl; exact K.inj _ _ (K.law.inj ha hb)
  · rintro rfl; rw [ha] at hb; exact Option.some.inj hb

theorem O.eqK {α : Type} [DecidableEq α] {k t' : TypeId} {enc : α → Array Value} {a b : α} (K : IsKey P k (fun a => .agg (enc a))) {m : Nat} (hm : m.ble 10000 = true) (hk : P.keyTypeAt m k = true)
    (hwide : (match P.underlying k with | some (.array _ _) | some (.struct _) => true | _ => false) = true) (hg : P.eqGuardType P.depth k = false) (hx : ev e x = .agg (enc a)) (hy : ev e y = .agg (enc b)) :
    Rn0 P e ⟨d, .binOp .eql k x y t', ty, p, af, g⟩ (.bool (decide (a = b))) := fun w =>
  run_binop hx hy (by simp [eqGuard, hg]) (run_eql rfl (run_eqKey K (Nat.le_of_ble_eq_true hm) hk hwide a b w))
theorem O.neK {α : Type} [DecidableEq α] {k t' : TypeId} {enc : α → Array Value} {a b : α} (K : IsKey P k (fun a => .agg (enc a))) {m : Nat} (hm : m.ble 10000 = true) (hk : P.keyTypeAt m k = true)
    (hwide : (match P.underlying k with | some (.array _ _) | some (.struct _) => true | _ => false) = true) (hg : P.eqGuardType P.depth k = false) (hx : ev e x = .agg (enc a)) (hy : ev e y = .agg (enc b)) :
    Rn0 P e ⟨d, .binOp .neq k x y t', ty, p, af, g⟩ (.bool (!decide (a = b))) := fun w =>
  run_binop hx hy (by simp [eqGuard, hg]) (run_neq rfl (run_eqKey K (Nat.le_of_ble_eq_true hm) hk hwide a b w))
end
end Go.X
