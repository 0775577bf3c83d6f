/- The engine, part 1: triples for the code of a Go function, over frames that are functions and a list of owned blocks. -/
import Derived.Calls
import Derived.Orders
import Derived.OrdersIn
import Derived.RangeFuncIn
import Derived.RangeFuncRecord
import Derived.KernelRfl
import Derived.Laws.Sem
import Derived.Laws.Cells
import Derived.Laws.World
import Derived.Laws.Entries
set_option linter.unusedVariables false
set_option linter.unusedSimpArgs false

namespace Go.X

/-! ## frames -/
abbrev Env := Nat → Value
def envOf (a : Act) : Env := fun t => a.tmps.getD t undef
def upd (e : Env) (t : Nat) (v : Value) : Env := fun t' => bif Nat.beq t' t then v else e t'
def updO (e : Env) : Option Tmp → Value → Env
  | some t, v => upd e t v
  | none, _ => e
def ev (e : Env) : Operand → Value
  | .tmp t => e t
  | .const v => v
  | .global g => .pointer (some ⟨g, 0, none⟩)
  | .func f => .func (.func f) #[] #[]

theorem eval_eq (a : Act) : a.eval = ev (envOf a) := by
  funext x; cases x <;> rfl

theorem upd_same (e : Env) (t : Nat) (v : Value) : upd e t v t = v := by simp [upd]
theorem upd_ne (e : Env) {t t' : Nat} (v : Value) (h : t' ≠ t) : upd e t v t' = e t' := by
  have : Nat.beq t' t = false := by
    cases hb : Nat.beq t' t with
    | false => rfl
    | true => exact absurd (Nat.eq_of_beq_eq_true hb) h
  simp [upd, this]

/-- an act of a frame of n.k slots that reads as e, with the deferred calls n.ds -/
structure Sz where
  k : Nat
  ds : List Deferred
def Fit (n : Sz) (e : Env) (a : Act) : Prop := a.defers = n.ds ∧ a.tmps.size = n.k ∧ envOf a = e

def dstOk (n : Sz) : Option Tmp → Bool
  | some d => d.blt n.k
  | none => true

theorem Fit.put {n : Sz} {e : Env} {a : Act} (h : Fit n e a) {d : Option Tmp} (hd : dstOk n d = true) (v : Value) :
    Fit n (updO e d v) (a.put d v) := by
  obtain ⟨h1, h2, h3⟩ := h
  cases d with
  | none => exact ⟨h1, h2, h3⟩
  | some d =>
    have hd' : d < a.tmps.size := by rw [h2]; simpa [dstOk, Nat.blt_eq] using hd
    refine ⟨h1, by simp [Act.put, h2], ?_⟩
    subst h3
    funext t
    by_cases ht : t = d
    · subst ht
      simp only [updO, upd_same]
      simp [envOf, Act.put, hd']
    · simp only [updO]
      rw [upd_ne _ _ ht]
      simp [envOf, Act.put, Array.getElem?_setIfInBounds_ne (Ne.symm ht)]

/-! ## code -/
abbrev EW := Env → World → Prop
/-- what is asked of each way out -/
structure Post where
  nor : EW
  ret : EW
  ex : Nat → EW
  gt : Nat → EW
def lk (n : Sz) (K : EW) (a : Act) (w : World) : Prop := a.defers = n.ds ∧ a.tmps.size = n.k ∧ K (envOf a) w
def lift (n : Sz) (Q : Post) : Exit → Act → World → Prop
  | .normal, a, w => lk n Q.nor a w
  | .ret, a, w => lk n Q.ret a w
  | .exit i, a, w => lk n (Q.ex i) a w
  | .goto l, a, w => lk n (Q.gt l) a w
  | .panic _, _, _ => False
  | .outgrown, _, _ => False

def WP (P : Program) (n : Sz) (c : Code) (Q : Post) (e : Env) (w : World) : Prop :=
  ∀ a, Fit n e a → c.wp P (lift n Q) a w

variable {P : Program} {n : Sz} {Q : Post} {e : Env} {w : World}

theorem Fit.lk {n : Sz} {e : Env} {a : Act} (h : Fit n e a) {K : EW} {w : World} (k : K e w) : lk n K a w := by
  obtain ⟨h1, h2, rfl⟩ := h
  exact ⟨h1, h2, k⟩

theorem lk.mono {n : Sz} {a : Act} {K K' : EW} {w : World} (h : lk n K a w) (hk : ∀ e w, K e w → K' e w) : lk n K' a w := ⟨h.1, h.2.1, hk _ _ h.2.2⟩

theorem WP.seq {x y : Code} (h : WP P n x { Q with nor := WP P n y Q } e w) : WP P n (.seq x y) Q e w := by
  intro a ha
  refine wp_seq (wp_mono (h a ha) ?_)
  intro k a' w' hx
  cases k with
  | normal => exact hx.2.2 a' ⟨hx.1, hx.2.1, rfl⟩
  | exit _ => exact hx
  | goto _ => exact hx
  | ret => exact hx
  | panic _ => exact hx.elim
  | outgrown => exact hx.elim

theorem WP.skip (h : Q.nor e w) : WP P n .skip Q e w := fun _ ha => wp_skip (ha.lk h)
theorem WP.exit {id : Nat} (h : Q.ex id e w) : WP P n (.exit id) Q e w := fun _ ha => wp_exit (ha.lk h)
theorem WP.ret (h : Q.ret e w) : WP P n .ret Q e w := fun _ ha => wp_ret (ha.lk h)
theorem WP.goto {l : Nat} (h : Q.gt l e w) : WP P n (.goto l) Q e w := fun _ ha => wp_goto (ha.lk h)

theorem WP.cond {c : Operand} {x y : Code} {t : Bool} (hc : ev e c = .bool t) (h : WP P n (if t then x else y) Q e w) :
    WP P n (.cond c x y) Q e w := fun a ha => by
  refine wp_cond (t := t) ?_ (h a ha)
  rw [eval_eq, ha.2.2]; exact hc

theorem WP.condT {c : Operand} {x y : Code} (hc : ev e c = .bool true) (h : WP P n x Q e w) : WP P n (.cond c x y) Q e w := WP.cond hc h
theorem WP.condF {c : Operand} {x y : Code} (hc : ev e c = .bool false) (h : WP P n y Q e w) : WP P n (.cond c x y) Q e w := WP.cond hc h

theorem WP.mono {c : Code} {Q' : Post} (h : WP P n c Q e w) (h1 : ∀ e w, Q.nor e w → Q'.nor e w) (h2 : ∀ e w, Q.ret e w → Q'.ret e w)
    (h3 : ∀ i e w, Q.ex i e w → Q'.ex i e w) (h4 : ∀ i e w, Q.gt i e w → Q'.gt i e w) : WP P n c Q' e w :=
  fun a ha => wp_mono (h a ha) fun x _ _ hx => by
    cases x with
    | normal => exact lk.mono hx h1
    | exit i => exact lk.mono hx (h3 i)
    | goto i => exact lk.mono hx (h4 i)
    | ret => exact lk.mono hx h2
    | panic _ => exact hx.elim
    | outgrown => exact hx.elim

theorem WP.block {id : Nat} {c : Code} (h : WP P n c { Q with ex := fun i => bif Nat.beq i id then Q.nor else Q.ex i } e w) : WP P n (.block id c) Q e w := by
  intro a ha
  refine wp_block (wp_mono (h a ha) ?_)
  intro k a' w' hx
  cases k with
  | normal => exact hx
  | exit i =>
    simp only [lift] at hx
    show Exit.inBlock id (lift n Q) (.exit i) a' w'
    simp only [Exit.inBlock]
    by_cases hi : i = id
    · subst hi; simpa [lift] using hx
    · have hb : Nat.beq i id = false := by
        cases hb : Nat.beq i id with
        | false => rfl
        | true => exact absurd (Nat.eq_of_beq_eq_true hb) hi
      rw [if_neg hi]
      rw [hb] at hx
      exact hx
  | goto _ => exact hx
  | ret => exact hx
  | panic _ => exact hx.elim
  | outgrown => exact hx.elim

/-- a loop: I m e w: the relation, with m what is left -/
theorem WP.loop {c : Code} (I : Nat → Env → World → Prop) (m : Nat) (h0 : I m e w)
    (round : ∀ m e w, I m e w → WP P n c { Q with nor := fun e' w' => ∃ m', m' < m ∧ I m' e' w' } e w) : WP P n (.loop c) Q e w := by
  intro a ha b k cs
  have key : ∀ m a w, (∃ e, Fit n e a ∧ I m e w) →
      ∃ x a' w', lift n Q x a' w' ∧ Arrives P (lone (b.at a (.code c :: .inLoop c :: k)) cs w) b k cs x a' w' := by
    intro m
    induction m using Nat.strongRecOn with
    | _ m ih =>
      rintro a w ⟨e, ha, hI⟩
      obtain ⟨x, a₁, w₁, hx, harr⟩ := round m e w hI a ha b (.inLoop c :: k) cs
      cases x with
      | normal =>
        obtain ⟨h1, h2, m', hlt, hI₁⟩ := hx
        obtain ⟨x₂, a₂, w₂, hq₂, harr₂⟩ := ih m' hlt a₁ w₁ ⟨_, ⟨h1, h2, rfl⟩, hI₁⟩
        exact ⟨x₂, a₂, w₂, hq₂, .of_steps (Steps.trans harr (.one step_inLoop)) harr₂⟩
      | exit id => exact ⟨.exit id, _, _, hx, .pass (x := .inLoop c) rfl (fun _ _ => .inl (by simp)) harr⟩
      | goto l => exact ⟨.goto l, _, _, hx, .pass (x := .inLoop c) rfl (fun _ _ => .inl (by simp)) harr⟩
      | ret => exact ⟨.ret, _, _, hx, .pass (x := .inLoop c) rfl (fun _ _ => .inl (by simp)) harr⟩
      | panic ch => exact hx.elim
      | outgrown => exact hx.elim
  obtain ⟨x, a', w', hq, harr⟩ := key m a w ⟨e, ha, h0⟩
  exact ⟨x, a', w', hq, .of_steps (.one step_loop) harr⟩

/-! ## one operation -/
def yieldedE (ops : Array Oper) (e : Env) (j : Nat) : Option Bool :=
  match (ops[j]?).bind (·.dst) with
  | some t => match e t with
    | .bool b => some b
    | _ => none
  | none => none
def wantedE (ops : Array Oper) (e : Env) (o : Oper) : Bool :=
  match o.guard with
  | none => true
  | some (j, want) => yieldedE ops e j == some want

theorem yielded_eq (ops : Array Oper) (a : Act) (j : Nat) : yielded ops a.tmps j = yieldedE ops (envOf a) j := by
  unfold yielded yieldedE
  cases (ops[j]?).bind (·.dst) with
  | none => rfl
  | some t =>
    simp only [Option.bind_some, envOf, Array.getD_eq_getD_getElem?]
    cases a.tmps[t]? with
    | none => rfl
    | some v => cases v <;> rfl

theorem wanted_eq (ops : Array Oper) (a : Act) (o : Oper) : Region.wanted o (yielded ops a.tmps) = wantedE ops (envOf a) o := by
  unfold Region.wanted wantedE
  cases o.guard with
  | none => rfl
  | some g => simp only [yielded_eq]

def wideAt (ro : Option Nat) : Fence := { fn := fun _ => True, depth := none, alive := false, round := ro }
theorem semAt_run {o : Oper} {ρ : Operand → Value} {ro : Option Nat} {nx : Next} {w w' : World} (hr : (execOp ρ o).run P w = .ok nx w') (hn : ∀ d, nx ≠ .defer d) :
    (o.semAt ro ρ).run P w = .ok nx w' := by
  by_cases hd : ∃ c, o.op = .defer c
  · obtain ⟨c, hc⟩ := hd
    exfalso
    unfold execOp at hr
    rw [hc] at hr
    simp only [Sem.run_bind] at hr
    cases hres : (resolve ρ c o.type).run P w with
    | halt x w1 => rw [hres] at hr; simp at hr
    | ok d w1 =>
      rw [hres] at hr
      simp only [Result.andThen_ok, Sem.run_pure, Result.ok.injEq] at hr
      exact hn d hr.1.symm
  · rw [Oper.semAt_eq ro ρ o (fun c hc => hd ⟨c, hc⟩)]; exact hr

/-- the operation is carried out, and what comes is K of the frame -/
structure OpS (P : Program) (n : Sz) (o : Oper) (K : Env → World → Prop) (e : Env) (w : World) : Prop where
  go : ∀ a Q, Fit n e a → o.wp P a w (lk n K) Q
  goIn : ∀ ro m a Q, Fit n e a → o.wpIn (wideAt ro) m P a w (lk n K) Q

theorem OpS.value {o : Oper} {K : Env → World → Prop} {v : Value} {w' : World} (hd : dstOk n o.dst = true)
    (hr : (execOp (ev e) o).run P w = .ok (.value v) w') (k : K (updO e o.dst v) w') : OpS P n o K e w := by
  refine ⟨fun a Q ha => ?_, fun ro m a Q ha => ⟨fun _ _ => trivial, ?_⟩⟩
  · unfold Oper.wp
    rw [eval_eq, ha.2.2, hr]
    exact (ha.put hd v).lk k
  · rw [eval_eq, ha.2.2, semAt_run hr (by simp)]
    exact (ha.put hd v).lk k

theorem OpS.skip {o : Oper} {K : Env → World → Prop} {w' : World} (hd : dstOk n o.dst = true)
    (hr : (execOp (ev e) o).run P w = .ok .skip w') (k : K (updO e o.dst undef) w') : OpS P n o K e w := by
  refine ⟨fun a Q ha => ?_, fun ro m a Q ha => ⟨fun _ _ => trivial, ?_⟩⟩
  · unfold Oper.wp
    rw [eval_eq, ha.2.2, hr]
    exact (ha.put hd undef).lk k
  · rw [eval_eq, ha.2.2, semAt_run hr (by simp)]
    exact (ha.put hd undef).lk k

theorem OpS.call {o : Oper} {K : Env → World → Prop} {f : FuncId} {args : Array Value} {w' : World} (hd : dstOk n o.dst = true)
    (hr : (execOp (ev e) o).run P w = .ok (.enter f args) w')
    (k : Calls P f args w' fun x w'' => ∃ v, x = .returned v ∧ K (updO e o.dst v) w'') : OpS P n o K e w := by
  refine ⟨fun a Q ha => ?_, fun ro m a Q ha => ⟨fun _ _ => trivial, ?_⟩⟩
  · unfold Oper.wp
    rw [eval_eq, ha.2.2, hr]
    refine Calls.mono k ?_
    rintro x w'' ⟨v, rfl, hk⟩
    exact (ha.put hd v).lk hk
  · rw [eval_eq, ha.2.2, semAt_run hr (by simp)]
    refine ⟨fun h => (by cases h), ?_⟩
    refine CallsIn.mono (callsIn_wide (n := m - 1) |>.2 k) ?_
    rintro x w'' ⟨v, rfl, hk⟩
    exact (ha.put hd v).lk hk

theorem OpS.mono {o : Oper} {K K' : Env → World → Prop} (h : OpS P n o K e w) (hk : ∀ e w, K e w → K' e w) : OpS P n o K' e w :=
  ⟨fun a Q ha => Oper.wp_mono (fun _ _ hh => ⟨hh.1, hh.2.1, hk _ _ hh.2.2⟩) (h.go a Q ha), fun ro m a Q ha => Oper.wpIn_mono (fun _ _ hh => ⟨hh.1, hh.2.1, hk _ _ hh.2.2⟩) (h.goIn ro m a Q ha)⟩

/-! ## a region in the text's order -/
def WOps (P : Program) (n : Sz) (ops : Array Oper) (Q : Post) (l : List Nat) (e : Env) (w : World) : Prop :=
  ∀ ro m a, Fit n e a → wpOpsIn (wideAt ro) m P ops (lift n Q) l a w
/-- an operation that may be a call of yield -/
structure OpY (P : Program) (n : Sz) (o : Oper) (K : Env → World → Prop) (e : Env) (w : World) : Prop where
  goIn : ∀ ro m a Q, Fit n e a → o.wpIn (wideAt ro) m P a w (lk n K) Q
theorem OpS.y {o : Oper} {K : Env → World → Prop} (h : OpS P n o K e w) : OpY P n o K e w := ⟨h.goIn⟩
theorem OpY.mono {o : Oper} {K K' : Env → World → Prop} (h : OpY P n o K e w) (hk : ∀ e w, K e w → K' e w) : OpY P n o K' e w :=
  ⟨fun ro m a Q ha => Oper.wpIn_mono (fun _ _ hh => ⟨hh.1, hh.2.1, hk _ _ hh.2.2⟩) (h.goIn ro m a Q ha)⟩
/-- a call of yield: a round -/
theorem OpY.round {o : Oper} {K : Env → World → Prop} {l : Nat} {f : FuncId} {tmps : Array Value} {assign body : Code} {w' : World} (hd : dstOk n o.dst = true)
    (hr : (execOp (ev e) o).run P w = .ok (.round l f tmps assign body) w')
    (k : ∀ m, RoundIn Fence.wide m P l f tmps assign body w' fun x w'' => ∃ v, x = .returned v ∧ K (updO e o.dst v) w'') : OpY P n o K e w := by
  refine ⟨fun ro m a Q ha => ⟨fun _ _ => trivial, ?_⟩⟩
  rw [eval_eq, ha.2.2, semAt_run hr (by simp)]
  refine ⟨fun h => (by cases h), ?_⟩
  refine RoundIn.mono (k (m - 1)) ?_
  rintro x w'' ⟨v, rfl, hk⟩
  exact (ha.put hd v).lk hk

theorem WOps.nil {ops : Array Oper} (h : Q.nor e w) : WOps P n ops Q [] e w := fun _ _ _ ha => ha.lk h

theorem WOps.cons {ops : Array Oper} {i : Nat} {rest : List Nat} {o : Oper} (ho : ops[i]? = some o) (hw : wantedE ops e o = true)
    (h : OpY P n o (WOps P n ops Q rest) e w) : WOps P n ops Q (i :: rest) e w := by
  intro ro m a ha
  unfold wpOpsIn
  simp only [ho]
  rw [wanted_eq, ha.2.2, hw]
  simp only [if_true]
  exact Oper.wpIn_mono (fun a' w' hh => hh.2.2 ro m a' ⟨hh.1, hh.2.1, rfl⟩) (h.goIn ro m a _ ha)

theorem WOps.pass {ops : Array Oper} {i : Nat} {rest : List Nat} {o : Oper} (ho : ops[i]? = some o) (hw : wantedE ops e o = false)
    (hd : dstOk n o.dst = true) (h : WOps P n ops Q rest (updO e o.dst undef) w) : WOps P n ops Q (i :: rest) e w := by
  intro ro m a ha
  unfold wpOpsIn
  simp only [ho]
  rw [wanted_eq, ha.2.2, hw]
  simp only [Bool.false_eq_true, if_false]
  exact ⟨fun _ _ => trivial, h ro m _ (ha.put hd undef)⟩

theorem WP.region {id : Nat} {ops : Array Oper} (h : WOps P n ops Q (List.range ops.size) e w) : WP P n (.region id ops false) Q e w :=
  fun a ha => (wpIn_wide (n := 0)).1 (wpIn_region (F := wideAt none) (h none 0 a ha))

/-! ## a region that draws its order: any order, with facts on the world that stay -/
section any
variable {md : Region.Mode} {ops : Array Oper}

def wpAnyI (P : Program) (md : Region.Mode) (ops : Array Oper) (Q : Exit → Act → World → Prop) (I : World → Prop) : Nat → Array Bool → Act → World → Prop
  | 0, listed, a, w => Region.ready md ops listed = [] ∧ Q .normal a w
  | fuel + 1, listed, a, w => (Region.ready md ops listed = [] → Q .normal a w) ∧
      ∀ i ∈ Region.ready md ops listed, wpOp P ops Q i (fun a' w' => I w' ∧ wpAnyI P md ops Q I fuel (listed.setIfInBounds i true) a' w') a w

theorem wpAnyI.mono {Q : Exit → Act → World → Prop} {I I' : World → Prop} (hI : ∀ w, I w → I' w) : ∀ (fuel : Nat) (listed : Array Bool) (a : Act) (w : World),
    wpAnyI P md ops Q I fuel listed a w → wpAnyI P md ops Q I' fuel listed a w
  | 0, _, _, _, h => h
  | fuel + 1, _, _, _, h => ⟨h.1, fun i hi => wpOp_mono (fun _ _ hh => ⟨hI _ hh.1, wpAnyI.mono hI fuel _ _ _ hh.2⟩) (h.2 i hi)⟩

theorem wpAnyI.any {Q : Exit → Act → World → Prop} {I : World → Prop} : ∀ (fuel : Nat) (listed : Array Bool) (a : Act) (w : World),
    wpAnyI P md ops Q I fuel listed a w → wpAny P md ops Q fuel listed a w
  | 0, _, _, _, h => h
  | fuel + 1, _, _, _, h => ⟨h.1, fun i hi => wpOp_mono (fun _ _ hh => wpAnyI.any fuel _ _ _ hh.2) (h.2 i hi)⟩

/-- what operation o gives in this act, in whatever world of I -/
def Gives (P : Program) (ops : Array Oper) (I : World → Prop) (o : Oper) (v : Value) (a : Act) : Prop :=
  (Region.wanted o (yielded ops a.tmps) = true ∧ ∀ w, I w → (execOp a.eval o).run P w = .ok (.value v) w) ∨
  (Region.wanted o (yielded ops a.tmps) = false ∧ v = undef)

theorem Gives.op {Q : Exit → Act → World → Prop} {I : World → Prop} {i : Nat} {o : Oper} {v : Value} {a : Act} (hi : ops[i]? = some o) (hy : Gives P ops I o v a)
    {K : Act → World → Prop} {w : World} (hI : I w) (h : K (a.put o.dst v) w) : wpOp P ops Q i K a w := by
  unfold wpOp
  simp only [hi]
  rcases hy with ⟨hw, hv⟩ | ⟨hw, rfl⟩
  · simp only [hw, if_true, Oper.wp, hv w hI, Oper.upon]; exact .inl h
  · simp only [hw, Bool.false_eq_true, if_false]; exact h

theorem Gives.same {I : World → Prop} {o : Oper} {v : Value} {a a' : Act} (hy : Gives P ops I o v a) (he : execOp a'.eval o = execOp a.eval o)
    (hw : Region.wanted o (yielded ops a'.tmps) = Region.wanted o (yielded ops a.tmps)) : Gives P ops I o v a' := by
  unfold Gives at *
  rw [he, hw]
  exact hy

theorem swap_put {Q : Exit → Act → World → Prop} {j : Nat} {oi oj : Oper} {v : Value} (hj : ops[j]? = some oj) (hap : oi.apart ops oj = true)
    (hsj : ∀ cs b, oj.op ≠ .select cs b) (hQ : ∀ c a w, ¬ Q (.panic c) a w) {Y : Act → Prop}
    (keep : ∀ a u, Y a → Y (a.put oj.dst u)) (keepD : ∀ a d, Y a → Y { a with defers := d :: a.defers })
    {K : Act → World → Prop} {a : Act} {w : World} (hy : Y a) (h : wpOp P ops Q j K (a.put oi.dst v) w) :
    wpOp P ops Q j (fun a' w' => Y a' ∧ K (a'.put oi.dst v) w') a w := by
  obtain ⟨h1, h2, _⟩ := Oper.apart_spec hap
  unfold wpOp at *
  simp only [hj] at *
  rw [wanted_put oj a oi.dst v h1] at h
  cases hw : Region.wanted oj (yielded ops a.tmps) with
  | false =>
    simp only [hw, Bool.false_eq_true, if_false] at h ⊢
    exact ⟨keep a _ hy, by rw [← Act.put_comm a v undef h2]; exact h⟩
  | true =>
    simp only [hw, if_true] at h ⊢
    rcases h with h | ⟨hasks, hlets⟩
    case inr => exact .inr ⟨by unfold Oper.asks at *; rw [execOp_put oj hsj a oi.dst v h1] at hasks; exact hasks, hlets⟩
    refine .inl ?_
    unfold Oper.wp at *
    rw [execOp_put oj hsj a oi.dst v h1] at h
    generalize (execOp a.eval oj).run P w = r at *
    cases r with
    | halt x w' => cases x <;> simp only [Oper.upon] at h ⊢; exact (hQ _ _ _ h).elim
    | ok nx w' =>
      cases nx <;> simp only [Oper.upon] at h ⊢
      case value u => exact ⟨keep a u hy, by rw [← Act.put_comm a v u h2]; exact h⟩
      case skip => exact ⟨keep a _ hy, by rw [← Act.put_comm a v undef h2]; exact h⟩
      case defer d =>
        refine ⟨keep _ _ (keepD a d hy), ?_⟩
        rw [← Act.put_comm _ v undef h2, ← Act.put_defers]
        exact h
      case enter f args =>
        refine Calls.mono h fun x w'' hx => ?_
        cases x with
        | returned u => exact ⟨keep a u hy, by rw [← Act.put_comm a v u h2]; exact hx⟩
        | panicked c => exact (hQ _ _ _ hx).elim
        | outgrown => exact hx
      case row row args => exact Rows.mono h fun u w'' hx => ⟨keep a u hy, by rw [← Act.put_comm a v u h2]; exact hx⟩

theorem wpAnyI_first {Q : Exit → Act → World → Prop} {I I' : World → Prop} (hII : ∀ w, I' w → I w) {i : Nat} {oi : Oper} {v : Value} (hi : ops[i]? = some oi)
    (hs : Region.noSelect ops = true) (hQ : ∀ c a w, ¬ Q (.panic c) a w) :
    ∀ (fuel : Nat) (listed : Array Bool) (a : Act) (w : World),
      (∀ j oj, ops[j]? = some oj → j ≠ i → listed.getD j true = false → (∀ x ∈ oj.after, Region.binds md x = true → x.on ≠ i) → oi.apart ops oj = true) →
      i ∈ Region.ready md ops listed → Gives P ops I' oi v a → I' w →
      wpAnyI P md ops Q I' fuel (listed.setIfInBounds i true) (a.put oi.dst v) w → wpAnyI P md ops Q I (fuel + 1) listed a w := by
  intro fuel
  induction fuel with
  | zero =>
    intro listed a w _ hr hy hI' H
    refine ⟨fun h => (by rw [h] at hr; cases hr), fun j hj => ?_⟩
    by_cases hji : j = i
    · subst hji; exact hy.op hi hI' ⟨hII _ hI', H⟩
    · have := ready_mono hj hji
      rw [H.1] at this
      cases this
  | succ fuel ih =>
    intro listed a w hfree hr hy hI' H
    refine ⟨fun h => (by rw [h] at hr; cases hr), fun j hj => ?_⟩
    by_cases hji : j = i
    · subst hji; exact hy.op hi hI' ⟨hII _ hI', wpAnyI.mono hII _ _ _ _ H⟩
    · have h1 := H.2 j (ready_mono hj hji)
      obtain ⟨hjun, oj, hoj, hall⟩ := mem_ready.1 hj
      have hnot : ∀ x ∈ oj.after, Region.binds md x = true → x.on ≠ i := fun x hx hb heq => by
        have h1 := hall x hx hb
        have h0 := (mem_ready.1 hr).1
        rw [heq] at h1
        rcases Nat.lt_or_ge i listed.size with h' | h'
        · simp [h'] at h0 h1; rw [h0] at h1; cases h1
        · simp [Array.getElem?_eq_none h'] at h1
      have hap := hfree j oj hoj hji hjun hnot
      obtain ⟨_, _, h3⟩ := Oper.apart_spec hap
      have h2 := swap_put hoj hap (fun cs b => Region.noSelect_spec hs j oj cs b hoj) hQ (Y := Gives P ops I' oi v)
        (fun a u hy => hy.same (execOp_put oi (fun cs b => Region.noSelect_spec hs i oi cs b hi) a oj.dst u h3) (wanted_put oi a oj.dst u h3)) (fun _ _ hy => hy.same rfl rfl) hy h1
      have hfree' : ∀ k ok, ops[k]? = some ok → k ≠ i → (listed.setIfInBounds j true).getD k true = false →
          (∀ x ∈ ok.after, Region.binds md x = true → x.on ≠ i) → oi.apart ops ok = true := fun k ok hk hki hun hno => by
        refine hfree k ok hk hki ?_ hno
        by_cases hjk : j = k
        · subst hjk; exact hjun
        · rw [getD_set_ne true hjk] at hun; exact hun
      refine wpOp_mono (fun a' w' h3 => ⟨hII _ h3.2.1, ih (listed.setIfInBounds j true) a' w' hfree' (ready_mono hr (Ne.symm hji)) h3.1 h3.2.1 ?_⟩) h2
      rw [Array.setIfInBounds_comm _ _ hji]
      exact h3.2.2

/-- the same over frames -/
def WAny (P : Program) (n : Sz) (ops : Array Oper) (Q : Post) (I : World → Prop) (fuel : Nat) (listed : Array Bool) (e : Env) (w : World) : Prop :=
  ∀ a, Fit n e a → wpAnyI P .any ops (lift n Q) I fuel listed a w

theorem WAny.take {I : World → Prop} {i : Nat} {oi : Oper} {v : Value} {fuel : Nat} {listed : Array Bool} (J : World → Prop) (hi : ops[i]? = some oi)
    (hs : Region.noSelect ops = true) (hf : Region.free .any ops listed i = true) (hr : (Region.ready .any ops listed).contains i = true) (hd : dstOk n oi.dst = true)
    (hw : wantedE ops e oi = true) (hrun : ∀ w, J w → (execOp (ev e) oi).run P w = .ok (.value v) w) (hI : I w) (hJ : J w)
    (h : WAny P n ops Q (fun w => I w ∧ J w) fuel (listed.setIfInBounds i true) (updO e oi.dst v) w) : WAny P n ops Q I (fuel + 1) listed e w := by
  intro a ha
  refine wpAnyI_first (I' := fun w => I w ∧ J w) (fun _ h => h.1) hi hs (fun _ _ _ h => h) fuel listed a w (Region.free_spec hi hf) (by simpa using hr)
    (.inl ⟨by rw [wanted_eq, ha.2.2]; exact hw, fun w hw => by rw [eval_eq, ha.2.2]; exact hrun w hw.2⟩) ⟨hI, hJ⟩ (h _ (ha.put hd v))

theorem WAny.takeP {I : World → Prop} {i : Nat} {oi : Oper} {v : Value} {fuel : Nat} {listed : Array Bool} (hi : ops[i]? = some oi)
    (hs : Region.noSelect ops = true) (hf : Region.free .any ops listed i = true) (hr : (Region.ready .any ops listed).contains i = true) (hd : dstOk n oi.dst = true)
    (hw : wantedE ops e oi = true) (hrun : ∀ w, (execOp (ev e) oi).run P w = .ok (.value v) w) (hI : I w)
    (h : WAny P n ops Q I fuel (listed.setIfInBounds i true) (updO e oi.dst v) w) : WAny P n ops Q I (fuel + 1) listed e w := by
  intro a ha
  refine wpAnyI_first (I' := I) (fun _ h => h) hi hs (fun _ _ _ h => h) fuel listed a w (Region.free_spec hi hf) (by simpa using hr)
    (.inl ⟨by rw [wanted_eq, ha.2.2]; exact hw, fun w _ => by rw [eval_eq, ha.2.2]; exact hrun w⟩) hI (h _ (ha.put hd v))

theorem WAny.pass {I : World → Prop} {i : Nat} {oi : Oper} {fuel : Nat} {listed : Array Bool} (hi : ops[i]? = some oi)
    (hs : Region.noSelect ops = true) (hf : Region.free .any ops listed i = true) (hr : (Region.ready .any ops listed).contains i = true) (hd : dstOk n oi.dst = true)
    (hw : wantedE ops e oi = false) (hI : I w)
    (h : WAny P n ops Q I fuel (listed.setIfInBounds i true) (updO e oi.dst undef) w) : WAny P n ops Q I (fuel + 1) listed e w := by
  intro a ha
  refine wpAnyI_first (I' := I) (fun _ h => h) hi hs (fun _ _ _ h => h) fuel listed a w (Region.free_spec hi hf) (by simpa using hr)
    (.inr ⟨by rw [wanted_eq, ha.2.2]; exact hw, rfl⟩) hI (h _ (ha.put hd undef))

def AllL (p : Nat → Prop) : List Nat → Prop
  | [] => True
  | i :: l => p i ∧ AllL p l

theorem AllL.mem {p : Nat → Prop} : ∀ {l : List Nat}, AllL p l → ∀ i ∈ l, p i
  | _ :: _, h, i, hi => by
    rcases List.mem_cons.1 hi with rfl | hi
    · exact h.1
    · exact AllL.mem h.2 i hi

/-- operation i of the region, and what comes behind it -/
def Branch (P : Program) (n : Sz) (ops : Array Oper) (K : Env → World → Prop) (e : Env) (w : World) (i : Nat) : Prop :=
  ∃ o, ops[i]? = some o ∧ wantedE ops e o = true ∧ OpS P n o K e w

theorem WAny.branch {I : World → Prop} {fuel : Nat} {listed : Array Bool} (rs : List Nat) (hr : Region.ready .any ops listed = rs) (hne : rs.isEmpty = false)
    (h : AllL (fun i => Branch P n ops (fun e' w' => I w' ∧ WAny P n ops Q I fuel (listed.setIfInBounds i true) e' w') e w i) rs) :
    WAny P n ops Q I (fuel + 1) listed e w := by
  intro a ha
  refine ⟨fun h0 => ?_, fun i hi => ?_⟩
  · rw [hr] at h0; subst h0; cases hne
  · rw [hr] at hi
    obtain ⟨o, ho, hw, hop⟩ := h.mem i hi
    unfold wpOp
    simp only [ho]
    rw [wanted_eq, ha.2.2, hw]
    simp only [if_true]
    exact .inl (Oper.wp_mono (fun a' w' hh => ⟨hh.2.2.1, hh.2.2.2 a' ⟨hh.1, hh.2.1, rfl⟩⟩) (hop.go a _ ha))

theorem WAny.done {I : World → Prop} {listed : Array Bool} (hr : Region.ready .any ops listed = []) (h : Q.nor e w) :
    ∀ fuel, WAny P n ops Q I fuel listed e w
  | 0 => fun _ ha => ⟨hr, ha.lk h⟩
  | _ + 1 => fun _ ha => ⟨fun _ => ha.lk h, by rw [hr]; simp⟩

theorem WP.draw {id : Nat} (hm : P.follows .mixedOrders = true)
    (h : WAny P n ops Q (fun _ => True) ops.size (Array.replicate ops.size false) e { w with drawn := w.drawn + 1 }) : WP P n (.region id ops true) Q e w :=
  fun a ha => wp_region_any hm (wpAnyI.any _ _ _ _ (h a ha))
end any

/-! ## entering a function -/
def resE (fn : Func) (e : Env) : Sem Value := do
  let vs ← fn.results.mapM fun
    | .tmp t => pure (e t)
    | .cell a t => do loadVar t (← asAddr (e a))
  pure (if h : vs.size = 1 then vs[0] else .tuple vs)

/-- the ways out of a body: both come to R -/
def retP (R : EW) : Post := { nor := R, ret := R, ex := fun _ _ _ => False, gt := fun _ _ _ => False }

def argE (args : List Value) : Env := fun t => (args[t]?).getD undef

theorem calls_enter {f : FuncId} {fn : Func} {c : Code} {args : List Value} {K : Value → World → Prop} (hf : P.funcs[f]? = some fn) (hb : fn.body = some c)
    (hn : args.length ≤ fn.ntmps) (h : WP P ⟨fn.ntmps, []⟩ c (retP fun e w => ∃ v, (resE fn e).run P w = .ok v w ∧ K v w) (argE args) w) :
    Calls P f args.toArray w (fun x w' => ∃ v, x = .returned v ∧ K v w') := by
  refine calls_of_wp hf hb (wp_mono (h _ ⟨rfl, ?_, ?_⟩) ?_)
  · simp; omega
  · funext t
    simp only [envOf, argE, Array.getD_eq_getD_getElem?, Array.getElem?_append, List.size_toArray, Array.getElem?_replicate, List.getElem?_toArray]
    split
    · rfl
    · rename_i ht
      rw [List.getElem?_eq_none (by omega)]
      split <;> rfl
  · intro x a w' hx
    cases x with
    | normal => obtain ⟨h1, h2, v, hr, hk⟩ := hx; exact ⟨h1, v, hr, v, rfl, hk⟩
    | ret => obtain ⟨h1, h2, v, hr, hk⟩ := hx; exact ⟨h1, v, hr, v, rfl, hk⟩
    | exit _ => exact hx.2.2.elim
    | goto _ => exact hx.2.2.elim
    | panic _ => exact hx.elim
    | outgrown => exact hx.elim

end Go.X

/- The engine, part 2: what is owned; the glue between operations and code. -/
namespace Go.X

/-! ## memory -/
structure Mod (F : Nat → Prop) (w w' : World) : Prop where
  os : w'.os = w.os
  tape : w'.tape = w.tape
  output : w'.output = w.output
  drawn : w.drawn ≤ w'.drawn
  size : w.heap.size ≤ w'.heap.size
  block : ∀ k, k < w.heap.size → ¬ F k → w'.heap[k]? = w.heap[k]?

theorem Mod.refl (F : Nat → Prop) (w : World) : Mod F w w := ⟨rfl, rfl, rfl, Nat.le_refl _, Nat.le_refl _, fun _ _ _ => rfl⟩
theorem Mod.trans {F : Nat → Prop} {a b c : World} (h : Mod F a b) (k : Mod F b c) : Mod F a c :=
  ⟨k.os.trans h.os, k.tape.trans h.tape, k.output.trans h.output, Nat.le_trans h.drawn k.drawn, Nat.le_trans h.size k.size,
    fun i hi hf => (k.block i (Nat.lt_of_lt_of_le hi h.size) hf).trans (h.block i hi hf)⟩

def setBlk (w : World) (b : Nat) (o : Obj) : World := { w with heap := w.heap.setIfInBounds b o }

theorem lt_of_get {w : World} {b : Nat} {o : Obj} (h : w.heap[b]? = some o) : b < w.heap.size := by
  rcases Nat.lt_or_ge b w.heap.size with h' | h'
  · exact h'
  · rw [Array.getElem?_eq_none h'] at h; cases h

abbrev Pt := Nat × Obj
structure Cx where
  w0 : World
  F : Nat → Prop

/-- from w0 on nothing has changed outside F; the blocks of L lie as L says, and are ours -/
structure St (c : Cx) (L : List Pt) (w : World) : Prop where
  mod : Mod c.F c.w0 w
  nd : (L.map Prod.fst).Nodup
  look : ∀ p ∈ L, w.heap[p.1]? = some p.2
  own : ∀ p ∈ L, c.F p.1 ∨ c.w0.heap.size ≤ p.1

variable {c : Cx} {L L' : List Pt}

theorem St.perm {w : World} (h : St c L w) (hp : L.Perm L') : St c L' w :=
  ⟨h.mod, (hp.map _).nodup_iff.1 h.nd, fun p hm => h.look p (hp.mem_iff.2 hm), fun p hm => h.own p (hp.mem_iff.2 hm)⟩

theorem St.sub {w : World} (h : St c L w) (hp : L'.Sublist L) : St c L' w :=
  ⟨h.mod, (hp.map _).nodup h.nd, fun p hm => h.look p (hp.subset hm), fun p hm => h.own p (hp.subset hm)⟩

theorem St.tail {w : World} {p : Pt} (h : St c (p :: L) w) : St c L w := h.sub (List.sublist_cons_self _ _)

theorem St.lt {w : World} (h : St c L w) {p : Pt} (hp : p ∈ L) : p.1 < w.heap.size := lt_of_get (h.look p hp)

theorem St.new {w : World} (h : St c L w) (o : Obj) : St c ((w.heap.size, o) :: L) (w.alloc o) := by
  refine ⟨⟨h.mod.os, h.mod.tape, h.mod.output, h.mod.drawn, ?_, ?_⟩, ?_, ?_, ?_⟩
  · simp only [World.alloc, Array.size_push]; exact Nat.le_succ_of_le h.mod.size
  · intro k hk hf
    simp only [World.alloc]
    rw [Array.getElem?_push_lt (Nat.lt_of_lt_of_le hk h.mod.size), ← Array.getElem?_eq_getElem]
    exact h.mod.block k hk hf
  · rw [List.map_cons, List.nodup_cons]
    refine ⟨?_, h.nd⟩
    intro hm
    obtain ⟨p, hp, he⟩ := List.mem_map.1 hm
    have := h.lt hp
    omega
  · intro p hp
    simp only [World.alloc]
    rcases List.mem_cons.1 hp with rfl | hp
    · simp
    · have hl := h.lt hp
      rw [Array.getElem?_push_lt hl, ← Array.getElem?_eq_getElem]
      exact h.look p hp
  · intro p hp
    rcases List.mem_cons.1 hp with rfl | hp
    · exact .inr h.mod.size
    · exact h.own p hp

theorem St.set {w : World} {A B : List Pt} {b : Nat} {o o' : Obj} (h : St c (A ++ (b, o) :: B) w) : St c (A ++ (b, o') :: B) (setBlk w b o') := by
  have hm : (b, o) ∈ A ++ (b, o) :: B := by simp
  have hlt : b < w.heap.size := h.lt hm
  have hnd := h.nd
  refine ⟨⟨h.mod.os, h.mod.tape, h.mod.output, h.mod.drawn, by simpa [setBlk] using h.mod.size, ?_⟩, ?_, ?_, ?_⟩
  · intro k hk hf
    have hne : b ≠ k := by
      rintro rfl
      rcases h.own _ hm with h1 | h1
      · exact hf h1
      · exact absurd hk (Nat.not_lt.2 h1)
    simp only [setBlk]
    rw [Array.getElem?_setIfInBounds_ne hne]
    exact h.mod.block k hk hf
  · simpa using hnd
  · intro p hp
    simp only [setBlk]
    simp only [List.map_append, List.map_cons, List.nodup_append, List.nodup_cons] at hnd
    obtain ⟨_, ⟨hb, _⟩, hab⟩ := hnd
    rcases List.mem_append.1 hp with hA | hB
    · have hne : b ≠ p.1 := fun e => (hab p.1 (List.mem_map.2 ⟨p, hA, rfl⟩) b (by simp)) e.symm
      rw [Array.getElem?_setIfInBounds_ne hne]
      exact h.look p (List.mem_append_left _ hA)
    · rcases List.mem_cons.1 hB with rfl | hB
      · simp [hlt]
      · have hne : b ≠ p.1 := fun e => hb (List.mem_map.2 ⟨p, hB, e.symm⟩)
        rw [Array.getElem?_setIfInBounds_ne hne]
        exact h.look p (List.mem_append_right _ (List.mem_cons_of_mem _ hB))
  · intro p hp
    rcases List.mem_append.1 hp with hA | hB
    · exact h.own p (List.mem_append_left _ hA)
    · rcases List.mem_cons.1 hB with rfl | hB
      · exact h.own (b, o) hm
      · exact h.own p (List.mem_append_right _ (List.mem_cons_of_mem _ hB))

theorem St.drew {w : World} (h : St c L w) (n : Nat) (hn : w.drawn ≤ n := by exact Nat.le_succ _) : St c L { w with drawn := n } :=
  ⟨⟨h.mod.os, h.mod.tape, h.mod.output, Nat.le_trans h.mod.drawn hn, h.mod.size, h.mod.block⟩, h.nd, h.look, h.own⟩

/-- the block can be read -/
def Rd (c : Cx) (L : List Pt) (b : Nat) (o : Obj) : Prop := ∀ w, St c L w → w.heap[b]? = some o

theorem Rd.mem {b : Nat} {o : Obj} (h : (b, o) ∈ L) : Rd c L b o := fun _ hs => hs.look _ h
theorem Rd.old {b : Nat} {o : Obj} (h : c.w0.heap[b]? = some o) (hf : ¬ c.F b) : Rd c L b o :=
  fun _ hs => (hs.mod.block b (lt_of_get h) hf).trans h
theorem Rd.cons {b : Nat} {o : Obj} {p : Pt} (h : Rd c L b o) : Rd c (p :: L) b o := fun w hs => h w hs.tail
theorem Rd.sub {b : Nat} {o : Obj} (h : Rd c L b o) (hs : L.Sublist L') : Rd c L' b o := fun w hw => h w (hw.sub hs)
theorem Rd.head {b : Nat} {o : Obj} : Rd c ((b, o) :: L) b o := Rd.mem List.mem_cons_self

/-- from the state L on -/
def Ent (c : Cx) (L : List Pt) (K : Env → World → Prop) (e : Env) : Prop := ∀ w, St c L w → K e w

theorem Ent.mono {K K' : Env → World → Prop} {e : Env} (h : Ent c L K e) (hk : ∀ e w, K e w → K' e w) : Ent c L K' e := fun w hw => hk _ _ (h w hw)
theorem Ent.sub {K : Env → World → Prop} {e : Env} (h : Ent c L' K e) (hs : L'.Sublist L) : Ent c L K e := fun w hw => h w (hw.sub hs)
theorem Ent.perm {K : Env → World → Prop} {e : Env} (h : Ent c L' K e) (hs : L.Perm L') : Ent c L K e := fun w hw => h w (hw.perm hs)
theorem Ent.drop {K : Env → World → Prop} {e : Env} {p : Pt} (h : Ent c L K e) : Ent c (p :: L) K e := fun w hw => h w hw.tail

/-! ## what operations do -/
section ops
variable {P : Program} {n : Sz} {Q : Post} {e : Env} {o : Oper}

def Rn0 (P : Program) (e : Env) (o : Oper) (v : Value) : Prop := ∀ w, (execOp (ev e) o).run P w = .ok (.value v) w
def Rn1 (P : Program) (e : Env) (o : Oper) (b : Nat) (ob : Obj) (v : Value) : Prop :=
  ∀ w, w.heap[b]? = some ob → (execOp (ev e) o).run P w = .ok (.value v) w
def En (P : Program) (e : Env) (o : Oper) (ob : Obj) (mk : Nat → Value) : Prop := ∀ w, (execOp (ev e) o).run P w = .ok (.value (mk w.heap.size)) (w.alloc ob)
/-- a change of one block; the answer's value -/
def Es (P : Program) (e : Env) (o : Oper) (b : Nat) (ob ob' : Obj) (v : Value) : Prop :=
  ∀ w, w.heap[b]? = some ob → ∃ nx, (execOp (ev e) o).run P w = .ok nx (setBlk w b ob') ∧ (nx = .value v ∨ nx = .skip ∧ v = undef)

variable {K : Env → World → Prop}

theorem Op.rd0 {v : Value} (hd : dstOk n o.dst = true) (h : Rn0 P e o v) (k : Ent c L K (updO e o.dst v)) : Ent c L (OpS P n o K) e :=
  fun w hw => OpS.value hd (h w) (k w hw)
theorem Op.rd1 {v : Value} {b : Nat} {ob : Obj} (hd : dstOk n o.dst = true) (h : Rn1 P e o b ob v) (hr : Rd c L b ob) (k : Ent c L K (updO e o.dst v)) : Ent c L (OpS P n o K) e :=
  fun w hw => OpS.value hd (h w (hr w hw)) (k w hw)
theorem Op.new {ob : Obj} {mk : Nat → Value} (hd : dstOk n o.dst = true) (h : En P e o ob mk)
    (k : ∀ b, c.w0.heap.size ≤ b → Ent c ((b, ob) :: L) K (updO e o.dst (mk b))) : Ent c L (OpS P n o K) e :=
  fun w hw => OpS.value hd (h w) (k _ hw.mod.size _ (hw.new ob))
theorem Op.set {v : Value} {b : Nat} {ob ob' : Obj} {A B : List Pt} (hL : L = A ++ (b, ob) :: B) (hd : dstOk n o.dst = true) (h : Es P e o b ob ob' v)
    (k : Ent c (A ++ (b, ob') :: B) K (updO e o.dst v)) : Ent c L (OpS P n o K) e := by
  subst hL
  intro w hw
  obtain ⟨nx, hr, hn⟩ := h w (hw.look (b, ob) (by simp))
  rcases hn with rfl | ⟨rfl, rfl⟩
  · exact OpS.value hd hr (k _ hw.set)
  · exact OpS.skip hd hr (k _ hw.set)

theorem Op.set0 {v : Value} {b : Nat} {ob ob' : Obj} {B : List Pt} (hd : dstOk n o.dst = true) (h : Es P e o b ob ob' v)
    (k : Ent c ((b, ob') :: B) K (updO e o.dst v)) : Ent c ((b, ob) :: B) (OpS P n o K) e := Op.set (A := []) rfl hd h k
theorem Op.set1 {v : Value} {b : Nat} {ob ob' : Obj} {p0 : Pt} {B : List Pt} (hd : dstOk n o.dst = true) (h : Es P e o b ob ob' v)
    (k : Ent c (p0 :: (b, ob') :: B) K (updO e o.dst v)) : Ent c (p0 :: (b, ob) :: B) (OpS P n o K) e := Op.set (A := [p0]) rfl hd h k
theorem Op.set2 {v : Value} {b : Nat} {ob ob' : Obj} {p0 p1 : Pt} {B : List Pt} (hd : dstOk n o.dst = true) (h : Es P e o b ob ob' v)
    (k : Ent c (p0 :: p1 :: (b, ob') :: B) K (updO e o.dst v)) : Ent c (p0 :: p1 :: (b, ob) :: B) (OpS P n o K) e := Op.set (A := [p0, p1]) rfl hd h k
theorem Op.set3 {v : Value} {b : Nat} {ob ob' : Obj} {p0 p1 p2 : Pt} {B : List Pt} (hd : dstOk n o.dst = true) (h : Es P e o b ob ob' v)
    (k : Ent c (p0 :: p1 :: p2 :: (b, ob') :: B) K (updO e o.dst v)) : Ent c (p0 :: p1 :: p2 :: (b, ob) :: B) (OpS P n o K) e := Op.set (A := [p0, p1, p2]) rfl hd h k
theorem Op.set4 {v : Value} {b : Nat} {ob ob' : Obj} {p0 p1 p2 p3 : Pt} {B : List Pt} (hd : dstOk n o.dst = true) (h : Es P e o b ob ob' v)
    (k : Ent c (p0 :: p1 :: p2 :: p3 :: (b, ob') :: B) K (updO e o.dst v)) : Ent c (p0 :: p1 :: p2 :: p3 :: (b, ob) :: B) (OpS P n o K) e := Op.set (A := [p0, p1, p2, p3]) rfl hd h k
/-- a function called from the state L: what it gives, and the state behind -/
def Fn (P : Program) (f : FuncId) (args : Array Value) (c : Cx) (L : List Pt) (post : Value → List Pt → Prop) : Prop :=
  ∀ w, St c L w → Calls P f args w (fun x w' => ∃ v, x = .returned v ∧ ∃ L', post v L' ∧ St c L' w')

theorem Fn.mono {f : FuncId} {args : Array Value} {post post' : Value → List Pt → Prop} (h : Fn P f args c L post) (hp : ∀ v L', post v L' → post' v L') :
    Fn P f args c L post' := fun w hw => (h w hw).mono fun _ _ ⟨v, h1, L', h2, h3⟩ => ⟨v, h1, L', hp _ _ h2, h3⟩

/-- the operation calls f at args -/
def Ec (P : Program) (e : Env) (o : Oper) (f : FuncId) (args : Array Value) : Prop := ∀ w, (execOp (ev e) o).run P w = .ok (.enter f args) w

theorem Op.call {f : FuncId} {args : Array Value} {post : Value → List Pt → Prop} (hd : dstOk n o.dst = true) (h : Ec P e o f args) (hf : Fn P f args c L post)
    (k : ∀ v L', post v L' → Ent c L' K (updO e o.dst v)) : Ent c L (OpS P n o K) e :=
  fun w hw => OpS.call hd (h w) ((hf w hw).mono fun _ _ ⟨v, h1, L', h2, h3⟩ => ⟨v, h1, k v L' h2 _ h3⟩)

/-- whatever an operation does, told of all states at once -/
def Eg (P : Program) (e : Env) (o : Oper) (c : Cx) (L : List Pt) (post : Value → List Pt → Prop) : Prop :=
  ∀ w, St c L w → ∃ v w' L', ((execOp (ev e) o).run P w = .ok (.value v) w' ∨ (execOp (ev e) o).run P w = .ok .skip w' ∧ v = undef) ∧ post v L' ∧ St c L' w'
theorem Op.gen {post : Value → List Pt → Prop} (hd : dstOk n o.dst = true) (h : Eg P e o c L post)
    (k : ∀ v L', post v L' → Ent c L' K (updO e o.dst v)) : Ent c L (OpS P n o K) e := fun w hw => by
  obtain ⟨v, w', L', hr, hp, hs⟩ := h w hw
  rcases hr with hr | ⟨hr, rfl⟩
  · exact OpS.value hd hr (k v L' hp w' hs)
  · exact OpS.skip hd hr (k _ L' hp w' hs)

/-! ## places of a row of operations -/
theorem at0 {a0 : Oper} {r : List Oper} : (List.toArray (a0 :: r))[0]? = some a0 := rfl
theorem at1 {a0 a1 : Oper} {r : List Oper} : (List.toArray (a0 :: a1 :: r))[1]? = some a1 := rfl
theorem at2 {a0 a1 a2 : Oper} {r : List Oper} : (List.toArray (a0 :: a1 :: a2 :: r))[2]? = some a2 := rfl
theorem at3 {a0 a1 a2 a3 : Oper} {r : List Oper} : (List.toArray (a0 :: a1 :: a2 :: a3 :: r))[3]? = some a3 := rfl
theorem at4 {a0 a1 a2 a3 a4 : Oper} {r : List Oper} : (List.toArray (a0 :: a1 :: a2 :: a3 :: a4 :: r))[4]? = some a4 := rfl
theorem at5 {a0 a1 a2 a3 a4 a5 : Oper} {r : List Oper} : (List.toArray (a0 :: a1 :: a2 :: a3 :: a4 :: a5 :: r))[5]? = some a5 := rfl
theorem at6 {a0 a1 a2 a3 a4 a5 a6 : Oper} {r : List Oper} : (List.toArray (a0 :: a1 :: a2 :: a3 :: a4 :: a5 :: a6 :: r))[6]? = some a6 := rfl
theorem at7 {a0 a1 a2 a3 a4 a5 a6 a7 : Oper} {r : List Oper} : (List.toArray (a0 :: a1 :: a2 :: a3 :: a4 :: a5 :: a6 :: a7 :: r))[7]? = some a7 := rfl
theorem at8 {a0 a1 a2 a3 a4 a5 a6 a7 a8 : Oper} {r : List Oper} : (List.toArray (a0 :: a1 :: a2 :: a3 :: a4 :: a5 :: a6 :: a7 :: a8 :: r))[8]? = some a8 := rfl
theorem at9 {a0 a1 a2 a3 a4 a5 a6 a7 a8 a9 : Oper} {r : List Oper} : (List.toArray (a0 :: a1 :: a2 :: a3 :: a4 :: a5 :: a6 :: a7 :: a8 :: a9 :: r))[9]? = some a9 := rfl
theorem at10 {a0 a1 a2 a3 a4 a5 a6 a7 a8 a9 a10 : Oper} {r : List Oper} : (List.toArray (a0 :: a1 :: a2 :: a3 :: a4 :: a5 :: a6 :: a7 :: a8 :: a9 :: a10 :: r))[10]? = some a10 := rfl
theorem at11 {a0 a1 a2 a3 a4 a5 a6 a7 a8 a9 a10 a11 : Oper} {r : List Oper} : (List.toArray (a0 :: a1 :: a2 :: a3 :: a4 :: a5 :: a6 :: a7 :: a8 :: a9 :: a10 :: a11 :: r))[11]? = some a11 := rfl
theorem at12 {a0 a1 a2 a3 a4 a5 a6 a7 a8 a9 a10 a11 a12 : Oper} {r : List Oper} : (List.toArray (a0 :: a1 :: a2 :: a3 :: a4 :: a5 :: a6 :: a7 :: a8 :: a9 :: a10 :: a11 :: a12 :: r))[12]? = some a12 := rfl
theorem at13 {a0 a1 a2 a3 a4 a5 a6 a7 a8 a9 a10 a11 a12 a13 : Oper} {r : List Oper} : (List.toArray (a0 :: a1 :: a2 :: a3 :: a4 :: a5 :: a6 :: a7 :: a8 :: a9 :: a10 :: a11 :: a12 :: a13 :: r))[13]? = some a13 := rfl
theorem at14 {a0 a1 a2 a3 a4 a5 a6 a7 a8 a9 a10 a11 a12 a13 a14 : Oper} {r : List Oper} : (List.toArray (a0 :: a1 :: a2 :: a3 :: a4 :: a5 :: a6 :: a7 :: a8 :: a9 :: a10 :: a11 :: a12 :: a13 :: a14 :: r))[14]? = some a14 := rfl
theorem at15 {a0 a1 a2 a3 a4 a5 a6 a7 a8 a9 a10 a11 a12 a13 a14 a15 : Oper} {r : List Oper} : (List.toArray (a0 :: a1 :: a2 :: a3 :: a4 :: a5 :: a6 :: a7 :: a8 :: a9 :: a10 :: a11 :: a12 :: a13 :: a14 :: a15 :: r))[15]? = some a15 := rfl
theorem at16 {a0 a1 a2 a3 a4 a5 a6 a7 a8 a9 a10 a11 a12 a13 a14 a15 a16 : Oper} {r : List Oper} : (List.toArray (a0 :: a1 :: a2 :: a3 :: a4 :: a5 :: a6 :: a7 :: a8 :: a9 :: a10 :: a11 :: a12 :: a13 :: a14 :: a15 :: a16 :: r))[16]? = some a16 := rfl
theorem at17 {a0 a1 a2 a3 a4 a5 a6 a7 a8 a9 a10 a11 a12 a13 a14 a15 a16 a17 : Oper} {r : List Oper} : (List.toArray (a0 :: a1 :: a2 :: a3 :: a4 :: a5 :: a6 :: a7 :: a8 :: a9 :: a10 :: a11 :: a12 :: a13 :: a14 :: a15 :: a16 :: a17 :: r))[17]? = some a17 := rfl
theorem at18 {a0 a1 a2 a3 a4 a5 a6 a7 a8 a9 a10 a11 a12 a13 a14 a15 a16 a17 a18 : Oper} {r : List Oper} : (List.toArray (a0 :: a1 :: a2 :: a3 :: a4 :: a5 :: a6 :: a7 :: a8 :: a9 :: a10 :: a11 :: a12 :: a13 :: a14 :: a15 :: a16 :: a17 :: a18 :: r))[18]? = some a18 := rfl
theorem at19 {a0 a1 a2 a3 a4 a5 a6 a7 a8 a9 a10 a11 a12 a13 a14 a15 a16 a17 a18 a19 : Oper} {r : List Oper} : (List.toArray (a0 :: a1 :: a2 :: a3 :: a4 :: a5 :: a6 :: a7 :: a8 :: a9 :: a10 :: a11 :: a12 :: a13 :: a14 :: a15 :: a16 :: a17 :: a18 :: a19 :: r))[19]? = some a19 := rfl
theorem at20 {a0 a1 a2 a3 a4 a5 a6 a7 a8 a9 a10 a11 a12 a13 a14 a15 a16 a17 a18 a19 a20 : Oper} {r : List Oper} : (List.toArray (a0 :: a1 :: a2 :: a3 :: a4 :: a5 :: a6 :: a7 :: a8 :: a9 :: a10 :: a11 :: a12 :: a13 :: a14 :: a15 :: a16 :: a17 :: a18 :: a19 :: a20 :: r))[20]? = some a20 := rfl
theorem at21 {a0 a1 a2 a3 a4 a5 a6 a7 a8 a9 a10 a11 a12 a13 a14 a15 a16 a17 a18 a19 a20 a21 : Oper} {r : List Oper} : (List.toArray (a0 :: a1 :: a2 :: a3 :: a4 :: a5 :: a6 :: a7 :: a8 :: a9 :: a10 :: a11 :: a12 :: a13 :: a14 :: a15 :: a16 :: a17 :: a18 :: a19 :: a20 :: a21 :: r))[21]? = some a21 := rfl
theorem at22 {a0 a1 a2 a3 a4 a5 a6 a7 a8 a9 a10 a11 a12 a13 a14 a15 a16 a17 a18 a19 a20 a21 a22 : Oper} {r : List Oper} : (List.toArray (a0 :: a1 :: a2 :: a3 :: a4 :: a5 :: a6 :: a7 :: a8 :: a9 :: a10 :: a11 :: a12 :: a13 :: a14 :: a15 :: a16 :: a17 :: a18 :: a19 :: a20 :: a21 :: a22 :: r))[22]? = some a22 := rfl
theorem at23 {a0 a1 a2 a3 a4 a5 a6 a7 a8 a9 a10 a11 a12 a13 a14 a15 a16 a17 a18 a19 a20 a21 a22 a23 : Oper} {r : List Oper} : (List.toArray (a0 :: a1 :: a2 :: a3 :: a4 :: a5 :: a6 :: a7 :: a8 :: a9 :: a10 :: a11 :: a12 :: a13 :: a14 :: a15 :: a16 :: a17 :: a18 :: a19 :: a20 :: a21 :: a22 :: a23 :: r))[23]? = some a23 := rfl
theorem at24 {a0 a1 a2 a3 a4 a5 a6 a7 a8 a9 a10 a11 a12 a13 a14 a15 a16 a17 a18 a19 a20 a21 a22 a23 a24 : Oper} {r : List Oper} : (List.toArray (a0 :: a1 :: a2 :: a3 :: a4 :: a5 :: a6 :: a7 :: a8 :: a9 :: a10 :: a11 :: a12 :: a13 :: a14 :: a15 :: a16 :: a17 :: a18 :: a19 :: a20 :: a21 :: a22 :: a23 :: a24 :: r))[24]? = some a24 := rfl
theorem at25 {a0 a1 a2 a3 a4 a5 a6 a7 a8 a9 a10 a11 a12 a13 a14 a15 a16 a17 a18 a19 a20 a21 a22 a23 a24 a25 : Oper} {r : List Oper} : (List.toArray (a0 :: a1 :: a2 :: a3 :: a4 :: a5 :: a6 :: a7 :: a8 :: a9 :: a10 :: a11 :: a12 :: a13 :: a14 :: a15 :: a16 :: a17 :: a18 :: a19 :: a20 :: a21 :: a22 :: a23 :: a24 :: a25 :: r))[25]? = some a25 := rfl
theorem at26 {a0 a1 a2 a3 a4 a5 a6 a7 a8 a9 a10 a11 a12 a13 a14 a15 a16 a17 a18 a19 a20 a21 a22 a23 a24 a25 a26 : Oper} {r : List Oper} : (List.toArray (a0 :: a1 :: a2 :: a3 :: a4 :: a5 :: a6 :: a7 :: a8 :: a9 :: a10 :: a11 :: a12 :: a13 :: a14 :: a15 :: a16 :: a17 :: a18 :: a19 :: a20 :: a21 :: a22 :: a23 :: a24 :: a25 :: a26 :: r))[26]? = some a26 := rfl
theorem at27 {a0 a1 a2 a3 a4 a5 a6 a7 a8 a9 a10 a11 a12 a13 a14 a15 a16 a17 a18 a19 a20 a21 a22 a23 a24 a25 a26 a27 : Oper} {r : List Oper} : (List.toArray (a0 :: a1 :: a2 :: a3 :: a4 :: a5 :: a6 :: a7 :: a8 :: a9 :: a10 :: a11 :: a12 :: a13 :: a14 :: a15 :: a16 :: a17 :: a18 :: a19 :: a20 :: a21 :: a22 :: a23 :: a24 :: a25 :: a26 :: a27 :: r))[27]? = some a27 := rfl
theorem at28 {a0 a1 a2 a3 a4 a5 a6 a7 a8 a9 a10 a11 a12 a13 a14 a15 a16 a17 a18 a19 a20 a21 a22 a23 a24 a25 a26 a27 a28 : Oper} {r : List Oper} : (List.toArray (a0 :: a1 :: a2 :: a3 :: a4 :: a5 :: a6 :: a7 :: a8 :: a9 :: a10 :: a11 :: a12 :: a13 :: a14 :: a15 :: a16 :: a17 :: a18 :: a19 :: a20 :: a21 :: a22 :: a23 :: a24 :: a25 :: a26 :: a27 :: a28 :: r))[28]? = some a28 := rfl
theorem at29 {a0 a1 a2 a3 a4 a5 a6 a7 a8 a9 a10 a11 a12 a13 a14 a15 a16 a17 a18 a19 a20 a21 a22 a23 a24 a25 a26 a27 a28 a29 : Oper} {r : List Oper} : (List.toArray (a0 :: a1 :: a2 :: a3 :: a4 :: a5 :: a6 :: a7 :: a8 :: a9 :: a10 :: a11 :: a12 :: a13 :: a14 :: a15 :: a16 :: a17 :: a18 :: a19 :: a20 :: a21 :: a22 :: a23 :: a24 :: a25 :: a26 :: a27 :: a28 :: a29 :: r))[29]? = some a29 := rfl
theorem at30 {a0 a1 a2 a3 a4 a5 a6 a7 a8 a9 a10 a11 a12 a13 a14 a15 a16 a17 a18 a19 a20 a21 a22 a23 a24 a25 a26 a27 a28 a29 a30 : Oper} {r : List Oper} : (List.toArray (a0 :: a1 :: a2 :: a3 :: a4 :: a5 :: a6 :: a7 :: a8 :: a9 :: a10 :: a11 :: a12 :: a13 :: a14 :: a15 :: a16 :: a17 :: a18 :: a19 :: a20 :: a21 :: a22 :: a23 :: a24 :: a25 :: a26 :: a27 :: a28 :: a29 :: a30 :: r))[30]? = some a30 := rfl
theorem at31 {a0 a1 a2 a3 a4 a5 a6 a7 a8 a9 a10 a11 a12 a13 a14 a15 a16 a17 a18 a19 a20 a21 a22 a23 a24 a25 a26 a27 a28 a29 a30 a31 : Oper} {r : List Oper} : (List.toArray (a0 :: a1 :: a2 :: a3 :: a4 :: a5 :: a6 :: a7 :: a8 :: a9 :: a10 :: a11 :: a12 :: a13 :: a14 :: a15 :: a16 :: a17 :: a18 :: a19 :: a20 :: a21 :: a22 :: a23 :: a24 :: a25 :: a26 :: a27 :: a28 :: a29 :: a30 :: a31 :: r))[31]? = some a31 := rfl
theorem at32 {a0 a1 a2 a3 a4 a5 a6 a7 a8 a9 a10 a11 a12 a13 a14 a15 a16 a17 a18 a19 a20 a21 a22 a23 a24 a25 a26 a27 a28 a29 a30 a31 a32 : Oper} {r : List Oper} : (List.toArray (a0 :: a1 :: a2 :: a3 :: a4 :: a5 :: a6 :: a7 :: a8 :: a9 :: a10 :: a11 :: a12 :: a13 :: a14 :: a15 :: a16 :: a17 :: a18 :: a19 :: a20 :: a21 :: a22 :: a23 :: a24 :: a25 :: a26 :: a27 :: a28 :: a29 :: a30 :: a31 :: a32 :: r))[32]? = some a32 := rfl
theorem at33 {a0 a1 a2 a3 a4 a5 a6 a7 a8 a9 a10 a11 a12 a13 a14 a15 a16 a17 a18 a19 a20 a21 a22 a23 a24 a25 a26 a27 a28 a29 a30 a31 a32 a33 : Oper} {r : List Oper} : (List.toArray (a0 :: a1 :: a2 :: a3 :: a4 :: a5 :: a6 :: a7 :: a8 :: a9 :: a10 :: a11 :: a12 :: a13 :: a14 :: a15 :: a16 :: a17 :: a18 :: a19 :: a20 :: a21 :: a22 :: a23 :: a24 :: a25 :: a26 :: a27 :: a28 :: a29 :: a30 :: a31 :: a32 :: a33 :: r))[33]? = some a33 := rfl
theorem at34 {a0 a1 a2 a3 a4 a5 a6 a7 a8 a9 a10 a11 a12 a13 a14 a15 a16 a17 a18 a19 a20 a21 a22 a23 a24 a25 a26 a27 a28 a29 a30 a31 a32 a33 a34 : Oper} {r : List Oper} : (List.toArray (a0 :: a1 :: a2 :: a3 :: a4 :: a5 :: a6 :: a7 :: a8 :: a9 :: a10 :: a11 :: a12 :: a13 :: a14 :: a15 :: a16 :: a17 :: a18 :: a19 :: a20 :: a21 :: a22 :: a23 :: a24 :: a25 :: a26 :: a27 :: a28 :: a29 :: a30 :: a31 :: a32 :: a33 :: a34 :: r))[34]? = some a34 := rfl
theorem at35 {a0 a1 a2 a3 a4 a5 a6 a7 a8 a9 a10 a11 a12 a13 a14 a15 a16 a17 a18 a19 a20 a21 a22 a23 a24 a25 a26 a27 a28 a29 a30 a31 a32 a33 a34 a35 : Oper} {r : List Oper} : (List.toArray (a0 :: a1 :: a2 :: a3 :: a4 :: a5 :: a6 :: a7 :: a8 :: a9 :: a10 :: a11 :: a12 :: a13 :: a14 :: a15 :: a16 :: a17 :: a18 :: a19 :: a20 :: a21 :: a22 :: a23 :: a24 :: a25 :: a26 :: a27 :: a28 :: a29 :: a30 :: a31 :: a32 :: a33 :: a34 :: a35 :: r))[35]? = some a35 := rfl
theorem at36 {a0 a1 a2 a3 a4 a5 a6 a7 a8 a9 a10 a11 a12 a13 a14 a15 a16 a17 a18 a19 a20 a21 a22 a23 a24 a25 a26 a27 a28 a29 a30 a31 a32 a33 a34 a35 a36 : Oper} {r : List Oper} : (List.toArray (a0 :: a1 :: a2 :: a3 :: a4 :: a5 :: a6 :: a7 :: a8 :: a9 :: a10 :: a11 :: a12 :: a13 :: a14 :: a15 :: a16 :: a17 :: a18 :: a19 :: a20 :: a21 :: a22 :: a23 :: a24 :: a25 :: a26 :: a27 :: a28 :: a29 :: a30 :: a31 :: a32 :: a33 :: a34 :: a35 :: a36 :: r))[36]? = some a36 := rfl
theorem at37 {a0 a1 a2 a3 a4 a5 a6 a7 a8 a9 a10 a11 a12 a13 a14 a15 a16 a17 a18 a19 a20 a21 a22 a23 a24 a25 a26 a27 a28 a29 a30 a31 a32 a33 a34 a35 a36 a37 : Oper} {r : List Oper} : (List.toArray (a0 :: a1 :: a2 :: a3 :: a4 :: a5 :: a6 :: a7 :: a8 :: a9 :: a10 :: a11 :: a12 :: a13 :: a14 :: a15 :: a16 :: a17 :: a18 :: a19 :: a20 :: a21 :: a22 :: a23 :: a24 :: a25 :: a26 :: a27 :: a28 :: a29 :: a30 :: a31 :: a32 :: a33 :: a34 :: a35 :: a36 :: a37 :: r))[37]? = some a37 := rfl
theorem at38 {a0 a1 a2 a3 a4 a5 a6 a7 a8 a9 a10 a11 a12 a13 a14 a15 a16 a17 a18 a19 a20 a21 a22 a23 a24 a25 a26 a27 a28 a29 a30 a31 a32 a33 a34 a35 a36 a37 a38 : Oper} {r : List Oper} : (List.toArray (a0 :: a1 :: a2 :: a3 :: a4 :: a5 :: a6 :: a7 :: a8 :: a9 :: a10 :: a11 :: a12 :: a13 :: a14 :: a15 :: a16 :: a17 :: a18 :: a19 :: a20 :: a21 :: a22 :: a23 :: a24 :: a25 :: a26 :: a27 :: a28 :: a29 :: a30 :: a31 :: a32 :: a33 :: a34 :: a35 :: a36 :: a37 :: a38 :: r))[38]? = some a38 := rfl
theorem at39 {a0 a1 a2 a3 a4 a5 a6 a7 a8 a9 a10 a11 a12 a13 a14 a15 a16 a17 a18 a19 a20 a21 a22 a23 a24 a25 a26 a27 a28 a29 a30 a31 a32 a33 a34 a35 a36 a37 a38 a39 : Oper} {r : List Oper} : (List.toArray (a0 :: a1 :: a2 :: a3 :: a4 :: a5 :: a6 :: a7 :: a8 :: a9 :: a10 :: a11 :: a12 :: a13 :: a14 :: a15 :: a16 :: a17 :: a18 :: a19 :: a20 :: a21 :: a22 :: a23 :: a24 :: a25 :: a26 :: a27 :: a28 :: a29 :: a30 :: a31 :: a32 :: a33 :: a34 :: a35 :: a36 :: a37 :: a38 :: a39 :: r))[39]? = some a39 := rfl
theorem at40 {a0 a1 a2 a3 a4 a5 a6 a7 a8 a9 a10 a11 a12 a13 a14 a15 a16 a17 a18 a19 a20 a21 a22 a23 a24 a25 a26 a27 a28 a29 a30 a31 a32 a33 a34 a35 a36 a37 a38 a39 a40 : Oper} {r : List Oper} : (List.toArray (a0 :: a1 :: a2 :: a3 :: a4 :: a5 :: a6 :: a7 :: a8 :: a9 :: a10 :: a11 :: a12 :: a13 :: a14 :: a15 :: a16 :: a17 :: a18 :: a19 :: a20 :: a21 :: a22 :: a23 :: a24 :: a25 :: a26 :: a27 :: a28 :: a29 :: a30 :: a31 :: a32 :: a33 :: a34 :: a35 :: a36 :: a37 :: a38 :: a39 :: a40 :: r))[40]? = some a40 := rfl
theorem at41 {a0 a1 a2 a3 a4 a5 a6 a7 a8 a9 a10 a11 a12 a13 a14 a15 a16 a17 a18 a19 a20 a21 a22 a23 a24 a25 a26 a27 a28 a29 a30 a31 a32 a33 a34 a35 a36 a37 a38 a39 a40 a41 : Oper} {r : List Oper} : (List.toArray (a0 :: a1 :: a2 :: a3 :: a4 :: a5 :: a6 :: a7 :: a8 :: a9 :: a10 :: a11 :: a12 :: a13 :: a14 :: a15 :: a16 :: a17 :: a18 :: a19 :: a20 :: a21 :: a22 :: a23 :: a24 :: a25 :: a26 :: a27 :: a28 :: a29 :: a30 :: a31 :: a32 :: a33 :: a34 :: a35 :: a36 :: a37 :: a38 :: a39 :: a40 :: a41 :: r))[41]? = some a41 := rfl
theorem at42 {a0 a1 a2 a3 a4 a5 a6 a7 a8 a9 a10 a11 a12 a13 a14 a15 a16 a17 a18 a19 a20 a21 a22 a23 a24 a25 a26 a27 a28 a29 a30 a31 a32 a33 a34 a35 a36 a37 a38 a39 a40 a41 a42 : Oper} {r : List Oper} : (List.toArray (a0 :: a1 :: a2 :: a3 :: a4 :: a5 :: a6 :: a7 :: a8 :: a9 :: a10 :: a11 :: a12 :: a13 :: a14 :: a15 :: a16 :: a17 :: a18 :: a19 :: a20 :: a21 :: a22 :: a23 :: a24 :: a25 :: a26 :: a27 :: a28 :: a29 :: a30 :: a31 :: a32 :: a33 :: a34 :: a35 :: a36 :: a37 :: a38 :: a39 :: a40 :: a41 :: a42 :: r))[42]? = some a42 := rfl
theorem at43 {a0 a1 a2 a3 a4 a5 a6 a7 a8 a9 a10 a11 a12 a13 a14 a15 a16 a17 a18 a19 a20 a21 a22 a23 a24 a25 a26 a27 a28 a29 a30 a31 a32 a33 a34 a35 a36 a37 a38 a39 a40 a41 a42 a43 : Oper} {r : List Oper} : (List.toArray (a0 :: a1 :: a2 :: a3 :: a4 :: a5 :: a6 :: a7 :: a8 :: a9 :: a10 :: a11 :: a12 :: a13 :: a14 :: a15 :: a16 :: a17 :: a18 :: a19 :: a20 :: a21 :: a22 :: a23 :: a24 :: a25 :: a26 :: a27 :: a28 :: a29 :: a30 :: a31 :: a32 :: a33 :: a34 :: a35 :: a36 :: a37 :: a38 :: a39 :: a40 :: a41 :: a42 :: a43 :: r))[43]? = some a43 := rfl
theorem at44 {a0 a1 a2 a3 a4 a5 a6 a7 a8 a9 a10 a11 a12 a13 a14 a15 a16 a17 a18 a19 a20 a21 a22 a23 a24 a25 a26 a27 a28 a29 a30 a31 a32 a33 a34 a35 a36 a37 a38 a39 a40 a41 a42 a43 a44 : Oper} {r : List Oper} : (List.toArray (a0 :: a1 :: a2 :: a3 :: a4 :: a5 :: a6 :: a7 :: a8 :: a9 :: a10 :: a11 :: a12 :: a13 :: a14 :: a15 :: a16 :: a17 :: a18 :: a19 :: a20 :: a21 :: a22 :: a23 :: a24 :: a25 :: a26 :: a27 :: a28 :: a29 :: a30 :: a31 :: a32 :: a33 :: a34 :: a35 :: a36 :: a37 :: a38 :: a39 :: a40 :: a41 :: a42 :: a43 :: a44 :: r))[44]? = some a44 := rfl
theorem at45 {a0 a1 a2 a3 a4 a5 a6 a7 a8 a9 a10 a11 a12 a13 a14 a15 a16 a17 a18 a19 a20 a21 a22 a23 a24 a25 a26 a27 a28 a29 a30 a31 a32 a33 a34 a35 a36 a37 a38 a39 a40 a41 a42 a43 a44 a45 : Oper} {r : List Oper} : (List.toArray (a0 :: a1 :: a2 :: a3 :: a4 :: a5 :: a6 :: a7 :: a8 :: a9 :: a10 :: a11 :: a12 :: a13 :: a14 :: a15 :: a16 :: a17 :: a18 :: a19 :: a20 :: a21 :: a22 :: a23 :: a24 :: a25 :: a26 :: a27 :: a28 :: a29 :: a30 :: a31 :: a32 :: a33 :: a34 :: a35 :: a36 :: a37 :: a38 :: a39 :: a40 :: a41 :: a42 :: a43 :: a44 :: a45 :: r))[45]? = some a45 := rfl
theorem at46 {a0 a1 a2 a3 a4 a5 a6 a7 a8 a9 a10 a11 a12 a13 a14 a15 a16 a17 a18 a19 a20 a21 a22 a23 a24 a25 a26 a27 a28 a29 a30 a31 a32 a33 a34 a35 a36 a37 a38 a39 a40 a41 a42 a43 a44 a45 a46 : Oper} {r : List Oper} : (List.toArray (a0 :: a1 :: a2 :: a3 :: a4 :: a5 :: a6 :: a7 :: a8 :: a9 :: a10 :: a11 :: a12 :: a13 :: a14 :: a15 :: a16 :: a17 :: a18 :: a19 :: a20 :: a21 :: a22 :: a23 :: a24 :: a25 :: a26 :: a27 :: a28 :: a29 :: a30 :: a31 :: a32 :: a33 :: a34 :: a35 :: a36 :: a37 :: a38 :: a39 :: a40 :: a41 :: a42 :: a43 :: a44 :: a45 :: a46 :: r))[46]? = some a46 := rfl
theorem at47 {a0 a1 a2 a3 a4 a5 a6 a7 a8 a9 a10 a11 a12 a13 a14 a15 a16 a17 a18 a19 a20 a21 a22 a23 a24 a25 a26 a27 a28 a29 a30 a31 a32 a33 a34 a35 a36 a37 a38 a39 a40 a41 a42 a43 a44 a45 a46 a47 : Oper} {r : List Oper} : (List.toArray (a0 :: a1 :: a2 :: a3 :: a4 :: a5 :: a6 :: a7 :: a8 :: a9 :: a10 :: a11 :: a12 :: a13 :: a14 :: a15 :: a16 :: a17 :: a18 :: a19 :: a20 :: a21 :: a22 :: a23 :: a24 :: a25 :: a26 :: a27 :: a28 :: a29 :: a30 :: a31 :: a32 :: a33 :: a34 :: a35 :: a36 :: a37 :: a38 :: a39 :: a40 :: a41 :: a42 :: a43 :: a44 :: a45 :: a46 :: a47 :: r))[47]? = some a47 := rfl
theorem at48 {a0 a1 a2 a3 a4 a5 a6 a7 a8 a9 a10 a11 a12 a13 a14 a15 a16 a17 a18 a19 a20 a21 a22 a23 a24 a25 a26 a27 a28 a29 a30 a31 a32 a33 a34 a35 a36 a37 a38 a39 a40 a41 a42 a43 a44 a45 a46 a47 a48 : Oper} {r : List Oper} : (List.toArray (a0 :: a1 :: a2 :: a3 :: a4 :: a5 :: a6 :: a7 :: a8 :: a9 :: a10 :: a11 :: a12 :: a13 :: a14 :: a15 :: a16 :: a17 :: a18 :: a19 :: a20 :: a21 :: a22 :: a23 :: a24 :: a25 :: a26 :: a27 :: a28 :: a29 :: a30 :: a31 :: a32 :: a33 :: a34 :: a35 :: a36 :: a37 :: a38 :: a39 :: a40 :: a41 :: a42 :: a43 :: a44 :: a45 :: a46 :: a47 :: a48 :: r))[48]? = some a48 := rfl
theorem at49 {a0 a1 a2 a3 a4 a5 a6 a7 a8 a9 a10 a11 a12 a13 a14 a15 a16 a17 a18 a19 a20 a21 a22 a23 a24 a25 a26 a27 a28 a29 a30 a31 a32 a33 a34 a35 a36 a37 a38 a39 a40 a41 a42 a43 a44 a45 a46 a47 a48 a49 : Oper} {r : List Oper} : (List.toArray (a0 :: a1 :: a2 :: a3 :: a4 :: a5 :: a6 :: a7 :: a8 :: a9 :: a10 :: a11 :: a12 :: a13 :: a14 :: a15 :: a16 :: a17 :: a18 :: a19 :: a20 :: a21 :: a22 :: a23 :: a24 :: a25 :: a26 :: a27 :: a28 :: a29 :: a30 :: a31 :: a32 :: a33 :: a34 :: a35 :: a36 :: a37 :: a38 :: a39 :: a40 :: a41 :: a42 :: a43 :: a44 :: a45 :: a46 :: a47 :: a48 :: a49 :: r))[49]? = some a49 := rfl
theorem at50 {a0 a1 a2 a3 a4 a5 a6 a7 a8 a9 a10 a11 a12 a13 a14 a15 a16 a17 a18 a19 a20 a21 a22 a23 a24 a25 a26 a27 a28 a29 a30 a31 a32 a33 a34 a35 a36 a37 a38 a39 a40 a41 a42 a43 a44 a45 a46 a47 a48 a49 a50 : Oper} {r : List Oper} : (List.toArray (a0 :: a1 :: a2 :: a3 :: a4 :: a5 :: a6 :: a7 :: a8 :: a9 :: a10 :: a11 :: a12 :: a13 :: a14 :: a15 :: a16 :: a17 :: a18 :: a19 :: a20 :: a21 :: a22 :: a23 :: a24 :: a25 :: a26 :: a27 :: a28 :: a29 :: a30 :: a31 :: a32 :: a33 :: a34 :: a35 :: a36 :: a37 :: a38 :: a39 :: a40 :: a41 :: a42 :: a43 :: a44 :: a45 :: a46 :: a47 :: a48 :: a49 :: a50 :: r))[50]? = some a50 := rfl
theorem at51 {a0 a1 a2 a3 a4 a5 a6 a7 a8 a9 a10 a11 a12 a13 a14 a15 a16 a17 a18 a19 a20 a21 a22 a23 a24 a25 a26 a27 a28 a29 a30 a31 a32 a33 a34 a35 a36 a37 a38 a39 a40 a41 a42 a43 a44 a45 a46 a47 a48 a49 a50 a51 : Oper} {r : List Oper} : (List.toArray (a0 :: a1 :: a2 :: a3 :: a4 :: a5 :: a6 :: a7 :: a8 :: a9 :: a10 :: a11 :: a12 :: a13 :: a14 :: a15 :: a16 :: a17 :: a18 :: a19 :: a20 :: a21 :: a22 :: a23 :: a24 :: a25 :: a26 :: a27 :: a28 :: a29 :: a30 :: a31 :: a32 :: a33 :: a34 :: a35 :: a36 :: a37 :: a38 :: a39 :: a40 :: a41 :: a42 :: a43 :: a44 :: a45 :: a46 :: a47 :: a48 :: a49 :: a50 :: a51 :: r))[51]? = some a51 := rfl
theorem at52 {a0 a1 a2 a3 a4 a5 a6 a7 a8 a9 a10 a11 a12 a13 a14 a15 a16 a17 a18 a19 a20 a21 a22 a23 a24 a25 a26 a27 a28 a29 a30 a31 a32 a33 a34 a35 a36 a37 a38 a39 a40 a41 a42 a43 a44 a45 a46 a47 a48 a49 a50 a51 a52 : Oper} {r : List Oper} : (List.toArray (a0 :: a1 :: a2 :: a3 :: a4 :: a5 :: a6 :: a7 :: a8 :: a9 :: a10 :: a11 :: a12 :: a13 :: a14 :: a15 :: a16 :: a17 :: a18 :: a19 :: a20 :: a21 :: a22 :: a23 :: a24 :: a25 :: a26 :: a27 :: a28 :: a29 :: a30 :: a31 :: a32 :: a33 :: a34 :: a35 :: a36 :: a37 :: a38 :: a39 :: a40 :: a41 :: a42 :: a43 :: a44 :: a45 :: a46 :: a47 :: a48 :: a49 :: a50 :: a51 :: a52 :: r))[52]? = some a52 := rfl
theorem at53 {a0 a1 a2 a3 a4 a5 a6 a7 a8 a9 a10 a11 a12 a13 a14 a15 a16 a17 a18 a19 a20 a21 a22 a23 a24 a25 a26 a27 a28 a29 a30 a31 a32 a33 a34 a35 a36 a37 a38 a39 a40 a41 a42 a43 a44 a45 a46 a47 a48 a49 a50 a51 a52 a53 : Oper} {r : List Oper} : (List.toArray (a0 :: a1 :: a2 :: a3 :: a4 :: a5 :: a6 :: a7 :: a8 :: a9 :: a10 :: a11 :: a12 :: a13 :: a14 :: a15 :: a16 :: a17 :: a18 :: a19 :: a20 :: a21 :: a22 :: a23 :: a24 :: a25 :: a26 :: a27 :: a28 :: a29 :: a30 :: a31 :: a32 :: a33 :: a34 :: a35 :: a36 :: a37 :: a38 :: a39 :: a40 :: a41 :: a42 :: a43 :: a44 :: a45 :: a46 :: a47 :: a48 :: a49 :: a50 :: a51 :: a52 :: a53 :: r))[53]? = some a53 := rfl
theorem at54 {a0 a1 a2 a3 a4 a5 a6 a7 a8 a9 a10 a11 a12 a13 a14 a15 a16 a17 a18 a19 a20 a21 a22 a23 a24 a25 a26 a27 a28 a29 a30 a31 a32 a33 a34 a35 a36 a37 a38 a39 a40 a41 a42 a43 a44 a45 a46 a47 a48 a49 a50 a51 a52 a53 a54 : Oper} {r : List Oper} : (List.toArray (a0 :: a1 :: a2 :: a3 :: a4 :: a5 :: a6 :: a7 :: a8 :: a9 :: a10 :: a11 :: a12 :: a13 :: a14 :: a15 :: a16 :: a17 :: a18 :: a19 :: a20 :: a21 :: a22 :: a23 :: a24 :: a25 :: a26 :: a27 :: a28 :: a29 :: a30 :: a31 :: a32 :: a33 :: a34 :: a35 :: a36 :: a37 :: a38 :: a39 :: a40 :: a41 :: a42 :: a43 :: a44 :: a45 :: a46 :: a47 :: a48 :: a49 :: a50 :: a51 :: a52 :: a53 :: a54 :: r))[54]? = some a54 := rfl
theorem at55 {a0 a1 a2 a3 a4 a5 a6 a7 a8 a9 a10 a11 a12 a13 a14 a15 a16 a17 a18 a19 a20 a21 a22 a23 a24 a25 a26 a27 a28 a29 a30 a31 a32 a33 a34 a35 a36 a37 a38 a39 a40 a41 a42 a43 a44 a45 a46 a47 a48 a49 a50 a51 a52 a53 a54 a55 : Oper} {r : List Oper} : (List.toArray (a0 :: a1 :: a2 :: a3 :: a4 :: a5 :: a6 :: a7 :: a8 :: a9 :: a10 :: a11 :: a12 :: a13 :: a14 :: a15 :: a16 :: a17 :: a18 :: a19 :: a20 :: a21 :: a22 :: a23 :: a24 :: a25 :: a26 :: a27 :: a28 :: a29 :: a30 :: a31 :: a32 :: a33 :: a34 :: a35 :: a36 :: a37 :: a38 :: a39 :: a40 :: a41 :: a42 :: a43 :: a44 :: a45 :: a46 :: a47 :: a48 :: a49 :: a50 :: a51 :: a52 :: a53 :: a54 :: a55 :: r))[55]? = some a55 := rfl
theorem at56 {a0 a1 a2 a3 a4 a5 a6 a7 a8 a9 a10 a11 a12 a13 a14 a15 a16 a17 a18 a19 a20 a21 a22 a23 a24 a25 a26 a27 a28 a29 a30 a31 a32 a33 a34 a35 a36 a37 a38 a39 a40 a41 a42 a43 a44 a45 a46 a47 a48 a49 a50 a51 a52 a53 a54 a55 a56 : Oper} {r : List Oper} : (List.toArray (a0 :: a1 :: a2 :: a3 :: a4 :: a5 :: a6 :: a7 :: a8 :: a9 :: a10 :: a11 :: a12 :: a13 :: a14 :: a15 :: a16 :: a17 :: a18 :: a19 :: a20 :: a21 :: a22 :: a23 :: a24 :: a25 :: a26 :: a27 :: a28 :: a29 :: a30 :: a31 :: a32 :: a33 :: a34 :: a35 :: a36 :: a37 :: a38 :: a39 :: a40 :: a41 :: a42 :: a43 :: a44 :: a45 :: a46 :: a47 :: a48 :: a49 :: a50 :: a51 :: a52 :: a53 :: a54 :: a55 :: a56 :: r))[56]? = some a56 := rfl
theorem at57 {a0 a1 a2 a3 a4 a5 a6 a7 a8 a9 a10 a11 a12 a13 a14 a15 a16 a17 a18 a19 a20 a21 a22 a23 a24 a25 a26 a27 a28 a29 a30 a31 a32 a33 a34 a35 a36 a37 a38 a39 a40 a41 a42 a43 a44 a45 a46 a47 a48 a49 a50 a51 a52 a53 a54 a55 a56 a57 : Oper} {r : List Oper} : (List.toArray (a0 :: a1 :: a2 :: a3 :: a4 :: a5 :: a6 :: a7 :: a8 :: a9 :: a10 :: a11 :: a12 :: a13 :: a14 :: a15 :: a16 :: a17 :: a18 :: a19 :: a20 :: a21 :: a22 :: a23 :: a24 :: a25 :: a26 :: a27 :: a28 :: a29 :: a30 :: a31 :: a32 :: a33 :: a34 :: a35 :: a36 :: a37 :: a38 :: a39 :: a40 :: a41 :: a42 :: a43 :: a44 :: a45 :: a46 :: a47 :: a48 :: a49 :: a50 :: a51 :: a52 :: a53 :: a54 :: a55 :: a56 :: a57 :: r))[57]? = some a57 := rfl
theorem at58 {a0 a1 a2 a3 a4 a5 a6 a7 a8 a9 a10 a11 a12 a13 a14 a15 a16 a17 a18 a19 a20 a21 a22 a23 a24 a25 a26 a27 a28 a29 a30 a31 a32 a33 a34 a35 a36 a37 a38 a39 a40 a41 a42 a43 a44 a45 a46 a47 a48 a49 a50 a51 a52 a53 a54 a55 a56 a57 a58 : Oper} {r : List Oper} : (List.toArray (a0 :: a1 :: a2 :: a3 :: a4 :: a5 :: a6 :: a7 :: a8 :: a9 :: a10 :: a11 :: a12 :: a13 :: a14 :: a15 :: a16 :: a17 :: a18 :: a19 :: a20 :: a21 :: a22 :: a23 :: a24 :: a25 :: a26 :: a27 :: a28 :: a29 :: a30 :: a31 :: a32 :: a33 :: a34 :: a35 :: a36 :: a37 :: a38 :: a39 :: a40 :: a41 :: a42 :: a43 :: a44 :: a45 :: a46 :: a47 :: a48 :: a49 :: a50 :: a51 :: a52 :: a53 :: a54 :: a55 :: a56 :: a57 :: a58 :: r))[58]? = some a58 := rfl
theorem at59 {a0 a1 a2 a3 a4 a5 a6 a7 a8 a9 a10 a11 a12 a13 a14 a15 a16 a17 a18 a19 a20 a21 a22 a23 a24 a25 a26 a27 a28 a29 a30 a31 a32 a33 a34 a35 a36 a37 a38 a39 a40 a41 a42 a43 a44 a45 a46 a47 a48 a49 a50 a51 a52 a53 a54 a55 a56 a57 a58 a59 : Oper} {r : List Oper} : (List.toArray (a0 :: a1 :: a2 :: a3 :: a4 :: a5 :: a6 :: a7 :: a8 :: a9 :: a10 :: a11 :: a12 :: a13 :: a14 :: a15 :: a16 :: a17 :: a18 :: a19 :: a20 :: a21 :: a22 :: a23 :: a24 :: a25 :: a26 :: a27 :: a28 :: a29 :: a30 :: a31 :: a32 :: a33 :: a34 :: a35 :: a36 :: a37 :: a38 :: a39 :: a40 :: a41 :: a42 :: a43 :: a44 :: a45 :: a46 :: a47 :: a48 :: a49 :: a50 :: a51 :: a52 :: a53 :: a54 :: a55 :: a56 :: a57 :: a58 :: a59 :: r))[59]? = some a59 := rfl
theorem at60 {a0 a1 a2 a3 a4 a5 a6 a7 a8 a9 a10 a11 a12 a13 a14 a15 a16 a17 a18 a19 a20 a21 a22 a23 a24 a25 a26 a27 a28 a29 a30 a31 a32 a33 a34 a35 a36 a37 a38 a39 a40 a41 a42 a43 a44 a45 a46 a47 a48 a49 a50 a51 a52 a53 a54 a55 a56 a57 a58 a59 a60 : Oper} {r : List Oper} : (List.toArray (a0 :: a1 :: a2 :: a3 :: a4 :: a5 :: a6 :: a7 :: a8 :: a9 :: a10 :: a11 :: a12 :: a13 :: a14 :: a15 :: a16 :: a17 :: a18 :: a19 :: a20 :: a21 :: a22 :: a23 :: a24 :: a25 :: a26 :: a27 :: a28 :: a29 :: a30 :: a31 :: a32 :: a33 :: a34 :: a35 :: a36 :: a37 :: a38 :: a39 :: a40 :: a41 :: a42 :: a43 :: a44 :: a45 :: a46 :: a47 :: a48 :: a49 :: a50 :: a51 :: a52 :: a53 :: a54 :: a55 :: a56 :: a57 :: a58 :: a59 :: a60 :: r))[60]? = some a60 := rfl
theorem at61 {a0 a1 a2 a3 a4 a5 a6 a7 a8 a9 a10 a11 a12 a13 a14 a15 a16 a17 a18 a19 a20 a21 a22 a23 a24 a25 a26 a27 a28 a29 a30 a31 a32 a33 a34 a35 a36 a37 a38 a39 a40 a41 a42 a43 a44 a45 a46 a47 a48 a49 a50 a51 a52 a53 a54 a55 a56 a57 a58 a59 a60 a61 : Oper} {r : List Oper} : (List.toArray (a0 :: a1 :: a2 :: a3 :: a4 :: a5 :: a6 :: a7 :: a8 :: a9 :: a10 :: a11 :: a12 :: a13 :: a14 :: a15 :: a16 :: a17 :: a18 :: a19 :: a20 :: a21 :: a22 :: a23 :: a24 :: a25 :: a26 :: a27 :: a28 :: a29 :: a30 :: a31 :: a32 :: a33 :: a34 :: a35 :: a36 :: a37 :: a38 :: a39 :: a40 :: a41 :: a42 :: a43 :: a44 :: a45 :: a46 :: a47 :: a48 :: a49 :: a50 :: a51 :: a52 :: a53 :: a54 :: a55 :: a56 :: a57 :: a58 :: a59 :: a60 :: a61 :: r))[61]? = some a61 := rfl
theorem at62 {a0 a1 a2 a3 a4 a5 a6 a7 a8 a9 a10 a11 a12 a13 a14 a15 a16 a17 a18 a19 a20 a21 a22 a23 a24 a25 a26 a27 a28 a29 a30 a31 a32 a33 a34 a35 a36 a37 a38 a39 a40 a41 a42 a43 a44 a45 a46 a47 a48 a49 a50 a51 a52 a53 a54 a55 a56 a57 a58 a59 a60 a61 a62 : Oper} {r : List Oper} : (List.toArray (a0 :: a1 :: a2 :: a3 :: a4 :: a5 :: a6 :: a7 :: a8 :: a9 :: a10 :: a11 :: a12 :: a13 :: a14 :: a15 :: a16 :: a17 :: a18 :: a19 :: a20 :: a21 :: a22 :: a23 :: a24 :: a25 :: a26 :: a27 :: a28 :: a29 :: a30 :: a31 :: a32 :: a33 :: a34 :: a35 :: a36 :: a37 :: a38 :: a39 :: a40 :: a41 :: a42 :: a43 :: a44 :: a45 :: a46 :: a47 :: a48 :: a49 :: a50 :: a51 :: a52 :: a53 :: a54 :: a55 :: a56 :: a57 :: a58 :: a59 :: a60 :: a61 :: a62 :: r))[62]? = some a62 := rfl
theorem at63 {a0 a1 a2 a3 a4 a5 a6 a7 a8 a9 a10 a11 a12 a13 a14 a15 a16 a17 a18 a19 a20 a21 a22 a23 a24 a25 a26 a27 a28 a29 a30 a31 a32 a33 a34 a35 a36 a37 a38 a39 a40 a41 a42 a43 a44 a45 a46 a47 a48 a49 a50 a51 a52 a53 a54 a55 a56 a57 a58 a59 a60 a61 a62 a63 : Oper} {r : List Oper} : (List.toArray (a0 :: a1 :: a2 :: a3 :: a4 :: a5 :: a6 :: a7 :: a8 :: a9 :: a10 :: a11 :: a12 :: a13 :: a14 :: a15 :: a16 :: a17 :: a18 :: a19 :: a20 :: a21 :: a22 :: a23 :: a24 :: a25 :: a26 :: a27 :: a28 :: a29 :: a30 :: a31 :: a32 :: a33 :: a34 :: a35 :: a36 :: a37 :: a38 :: a39 :: a40 :: a41 :: a42 :: a43 :: a44 :: a45 :: a46 :: a47 :: a48 :: a49 :: a50 :: a51 :: a52 :: a53 :: a54 :: a55 :: a56 :: a57 :: a58 :: a59 :: a60 :: a61 :: a62 :: a63 :: r))[63]? = some a63 := rfl
theorem at64 {a0 a1 a2 a3 a4 a5 a6 a7 a8 a9 a10 a11 a12 a13 a14 a15 a16 a17 a18 a19 a20 a21 a22 a23 a24 a25 a26 a27 a28 a29 a30 a31 a32 a33 a34 a35 a36 a37 a38 a39 a40 a41 a42 a43 a44 a45 a46 a47 a48 a49 a50 a51 a52 a53 a54 a55 a56 a57 a58 a59 a60 a61 a62 a63 a64 : Oper} {r : List Oper} : (List.toArray (a0 :: a1 :: a2 :: a3 :: a4 :: a5 :: a6 :: a7 :: a8 :: a9 :: a10 :: a11 :: a12 :: a13 :: a14 :: a15 :: a16 :: a17 :: a18 :: a19 :: a20 :: a21 :: a22 :: a23 :: a24 :: a25 :: a26 :: a27 :: a28 :: a29 :: a30 :: a31 :: a32 :: a33 :: a34 :: a35 :: a36 :: a37 :: a38 :: a39 :: a40 :: a41 :: a42 :: a43 :: a44 :: a45 :: a46 :: a47 :: a48 :: a49 :: a50 :: a51 :: a52 :: a53 :: a54 :: a55 :: a56 :: a57 :: a58 :: a59 :: a60 :: a61 :: a62 :: a63 :: a64 :: r))[64]? = some a64 := rfl
theorem at65 {a0 a1 a2 a3 a4 a5 a6 a7 a8 a9 a10 a11 a12 a13 a14 a15 a16 a17 a18 a19 a20 a21 a22 a23 a24 a25 a26 a27 a28 a29 a30 a31 a32 a33 a34 a35 a36 a37 a38 a39 a40 a41 a42 a43 a44 a45 a46 a47 a48 a49 a50 a51 a52 a53 a54 a55 a56 a57 a58 a59 a60 a61 a62 a63 a64 a65 : Oper} {r : List Oper} : (List.toArray (a0 :: a1 :: a2 :: a3 :: a4 :: a5 :: a6 :: a7 :: a8 :: a9 :: a10 :: a11 :: a12 :: a13 :: a14 :: a15 :: a16 :: a17 :: a18 :: a19 :: a20 :: a21 :: a22 :: a23 :: a24 :: a25 :: a26 :: a27 :: a28 :: a29 :: a30 :: a31 :: a32 :: a33 :: a34 :: a35 :: a36 :: a37 :: a38 :: a39 :: a40 :: a41 :: a42 :: a43 :: a44 :: a45 :: a46 :: a47 :: a48 :: a49 :: a50 :: a51 :: a52 :: a53 :: a54 :: a55 :: a56 :: a57 :: a58 :: a59 :: a60 :: a61 :: a62 :: a63 :: a64 :: a65 :: r))[65]? = some a65 := rfl
theorem at66 {a0 a1 a2 a3 a4 a5 a6 a7 a8 a9 a10 a11 a12 a13 a14 a15 a16 a17 a18 a19 a20 a21 a22 a23 a24 a25 a26 a27 a28 a29 a30 a31 a32 a33 a34 a35 a36 a37 a38 a39 a40 a41 a42 a43 a44 a45 a46 a47 a48 a49 a50 a51 a52 a53 a54 a55 a56 a57 a58 a59 a60 a61 a62 a63 a64 a65 a66 : Oper} {r : List Oper} : (List.toArray (a0 :: a1 :: a2 :: a3 :: a4 :: a5 :: a6 :: a7 :: a8 :: a9 :: a10 :: a11 :: a12 :: a13 :: a14 :: a15 :: a16 :: a17 :: a18 :: a19 :: a20 :: a21 :: a22 :: a23 :: a24 :: a25 :: a26 :: a27 :: a28 :: a29 :: a30 :: a31 :: a32 :: a33 :: a34 :: a35 :: a36 :: a37 :: a38 :: a39 :: a40 :: a41 :: a42 :: a43 :: a44 :: a45 :: a46 :: a47 :: a48 :: a49 :: a50 :: a51 :: a52 :: a53 :: a54 :: a55 :: a56 :: a57 :: a58 :: a59 :: a60 :: a61 :: a62 :: a63 :: a64 :: a65 :: a66 :: r))[66]? = some a66 := rfl
theorem at67 {a0 a1 a2 a3 a4 a5 a6 a7 a8 a9 a10 a11 a12 a13 a14 a15 a16 a17 a18 a19 a20 a21 a22 a23 a24 a25 a26 a27 a28 a29 a30 a31 a32 a33 a34 a35 a36 a37 a38 a39 a40 a41 a42 a43 a44 a45 a46 a47 a48 a49 a50 a51 a52 a53 a54 a55 a56 a57 a58 a59 a60 a61 a62 a63 a64 a65 a66 a67 : Oper} {r : List Oper} : (List.toArray (a0 :: a1 :: a2 :: a3 :: a4 :: a5 :: a6 :: a7 :: a8 :: a9 :: a10 :: a11 :: a12 :: a13 :: a14 :: a15 :: a16 :: a17 :: a18 :: a19 :: a20 :: a21 :: a22 :: a23 :: a24 :: a25 :: a26 :: a27 :: a28 :: a29 :: a30 :: a31 :: a32 :: a33 :: a34 :: a35 :: a36 :: a37 :: a38 :: a39 :: a40 :: a41 :: a42 :: a43 :: a44 :: a45 :: a46 :: a47 :: a48 :: a49 :: a50 :: a51 :: a52 :: a53 :: a54 :: a55 :: a56 :: a57 :: a58 :: a59 :: a60 :: a61 :: a62 :: a63 :: a64 :: a65 :: a66 :: a67 :: r))[67]? = some a67 := rfl
theorem at68 {a0 a1 a2 a3 a4 a5 a6 a7 a8 a9 a10 a11 a12 a13 a14 a15 a16 a17 a18 a19 a20 a21 a22 a23 a24 a25 a26 a27 a28 a29 a30 a31 a32 a33 a34 a35 a36 a37 a38 a39 a40 a41 a42 a43 a44 a45 a46 a47 a48 a49 a50 a51 a52 a53 a54 a55 a56 a57 a58 a59 a60 a61 a62 a63 a64 a65 a66 a67 a68 : Oper} {r : List Oper} : (List.toArray (a0 :: a1 :: a2 :: a3 :: a4 :: a5 :: a6 :: a7 :: a8 :: a9 :: a10 :: a11 :: a12 :: a13 :: a14 :: a15 :: a16 :: a17 :: a18 :: a19 :: a20 :: a21 :: a22 :: a23 :: a24 :: a25 :: a26 :: a27 :: a28 :: a29 :: a30 :: a31 :: a32 :: a33 :: a34 :: a35 :: a36 :: a37 :: a38 :: a39 :: a40 :: a41 :: a42 :: a43 :: a44 :: a45 :: a46 :: a47 :: a48 :: a49 :: a50 :: a51 :: a52 :: a53 :: a54 :: a55 :: a56 :: a57 :: a58 :: a59 :: a60 :: a61 :: a62 :: a63 :: a64 :: a65 :: a66 :: a67 :: a68 :: r))[68]? = some a68 := rfl
theorem at69 {a0 a1 a2 a3 a4 a5 a6 a7 a8 a9 a10 a11 a12 a13 a14 a15 a16 a17 a18 a19 a20 a21 a22 a23 a24 a25 a26 a27 a28 a29 a30 a31 a32 a33 a34 a35 a36 a37 a38 a39 a40 a41 a42 a43 a44 a45 a46 a47 a48 a49 a50 a51 a52 a53 a54 a55 a56 a57 a58 a59 a60 a61 a62 a63 a64 a65 a66 a67 a68 a69 : Oper} {r : List Oper} : (List.toArray (a0 :: a1 :: a2 :: a3 :: a4 :: a5 :: a6 :: a7 :: a8 :: a9 :: a10 :: a11 :: a12 :: a13 :: a14 :: a15 :: a16 :: a17 :: a18 :: a19 :: a20 :: a21 :: a22 :: a23 :: a24 :: a25 :: a26 :: a27 :: a28 :: a29 :: a30 :: a31 :: a32 :: a33 :: a34 :: a35 :: a36 :: a37 :: a38 :: a39 :: a40 :: a41 :: a42 :: a43 :: a44 :: a45 :: a46 :: a47 :: a48 :: a49 :: a50 :: a51 :: a52 :: a53 :: a54 :: a55 :: a56 :: a57 :: a58 :: a59 :: a60 :: a61 :: a62 :: a63 :: a64 :: a65 :: a66 :: a67 :: a68 :: a69 :: r))[69]? = some a69 := rfl
/-! ## in the text's order -/
variable {ops : Array Oper} {i : Nat} {rest : List Nat}

theorem Seq.op (ho : ops[i]? = some o) (hw : wantedE ops e o = true) (h : Ent c L (OpS P n o (WOps P n ops Q rest)) e) : Ent c L (WOps P n ops Q (i :: rest)) e :=
  fun w hs => WOps.cons ho hw (h w hs).y
/-- a call of yield -/
theorem Seq.opY (ho : ops[i]? = some o) (hw : wantedE ops e o = true) (h : Ent c L (OpY P n o (WOps P n ops Q rest)) e) : Ent c L (WOps P n ops Q (i :: rest)) e :=
  fun w hs => WOps.cons ho hw (h w hs)
theorem Seq.rd0 {v : Value} (ho : ops[i]? = some o) (hw : wantedE ops e o = true) (hd : dstOk n o.dst = true) (h : Rn0 P e o v)
    (k : Ent c L (WOps P n ops Q rest) (updO e o.dst v)) : Ent c L (WOps P n ops Q (i :: rest)) e := Seq.op ho hw (Op.rd0 hd h k)
theorem Seq.rd1 {v : Value} {b : Nat} {ob : Obj} (ho : ops[i]? = some o) (hw : wantedE ops e o = true) (hd : dstOk n o.dst = true) (h : Rn1 P e o b ob v) (hr : Rd c L b ob)
    (k : Ent c L (WOps P n ops Q rest) (updO e o.dst v)) : Ent c L (WOps P n ops Q (i :: rest)) e := Seq.op ho hw (Op.rd1 hd h hr k)
theorem Seq.pass (ho : ops[i]? = some o) (hw : wantedE ops e o = false) (hd : dstOk n o.dst = true) (h : Ent c L (WOps P n ops Q rest) (updO e o.dst undef)) :
    Ent c L (WOps P n ops Q (i :: rest)) e := fun w hs => WOps.pass ho hw hd (h w hs)
theorem Seq.nil (h : Ent c L Q.nor e) : Ent c L (WOps P n ops Q []) e := fun w hs => WOps.nil (h w hs)

/-! ## in whatever order -/
def TkI : List Pt → World → Prop
  | [] => fun _ => True
  | p :: T => fun w => TkI T w ∧ w.heap[p.1]? = some p.2
def TkR (c : Cx) (L : List Pt) : List Pt → Prop
  | [] => True
  | p :: T => TkR c L T ∧ Rd c L p.1 p.2
theorem TkR.I {w : World} (hs : St c L w) : ∀ {T : List Pt}, TkR c L T → TkI T w
  | [], _ => trivial
  | _ :: _, h => ⟨TkR.I hs h.1, h.2 w hs⟩
theorem TkR.sub (hs : L.Sublist L') : ∀ {T : List Pt}, TkR c L T → TkR c L' T
  | [], _ => trivial
  | _ :: _, h => ⟨TkR.sub hs h.1, h.2.sub hs⟩
theorem TkR.cons {p : Pt} {T : List Pt} (h : TkR c L T) : TkR c (p :: L) T := h.sub (List.sublist_cons_self _ _)

/-- the rest of a region that draws, from the state L on, the blocks of T having been read -/
def Any (P : Program) (n : Sz) (ops : Array Oper) (Q : Post) (c : Cx) (L T : List Pt) (fuel : Nat) (listed : Array Bool) (e : Env) : Prop :=
  TkR c L T ∧ Ent c L (WAny P n ops Q (TkI T) fuel listed) e

variable {T : List Pt} {fuel : Nat} {listed : Array Bool}

theorem Any.rd0 (i : Nat) {v : Value} (ho : ops[i]? = some o) (hw : wantedE ops e o = true) (hd : dstOk n o.dst = true) (h : Rn0 P e o v)
    (hs : Region.noSelect ops = true) (hf : Region.free .any ops listed i = true) (hr : (Region.ready .any ops listed).contains i = true)
    (k : Any P n ops Q c L T fuel (listed.setIfInBounds i true) (updO e o.dst v)) : Any P n ops Q c L T (fuel + 1) listed e :=
  ⟨k.1, fun w hw' => WAny.takeP ho hs hf hr hd hw h (k.1.I hw') (k.2 w hw')⟩
theorem Any.rd1 (i : Nat) {v : Value} {b : Nat} {ob : Obj} (ho : ops[i]? = some o) (hw : wantedE ops e o = true) (hd : dstOk n o.dst = true) (h : Rn1 P e o b ob v) (hrd : Rd c L b ob)
    (hs : Region.noSelect ops = true) (hf : Region.free .any ops listed i = true) (hr : (Region.ready .any ops listed).contains i = true)
    (k : Any P n ops Q c L ((b, ob) :: T) fuel (listed.setIfInBounds i true) (updO e o.dst v)) : Any P n ops Q c L T (fuel + 1) listed e :=
  ⟨k.1.1, fun w hw' => WAny.take (fun w => w.heap[b]? = some ob) ho hs hf hr hd hw (fun w hb => h w hb) (k.1.1.I hw') (hrd w hw') (k.2 w hw')⟩
theorem Any.pass (i : Nat) (ho : ops[i]? = some o) (hw : wantedE ops e o = false) (hd : dstOk n o.dst = true)
    (hs : Region.noSelect ops = true) (hf : Region.free .any ops listed i = true) (hr : (Region.ready .any ops listed).contains i = true)
    (k : Any P n ops Q c L T fuel (listed.setIfInBounds i true) (updO e o.dst undef)) : Any P n ops Q c L T (fuel + 1) listed e :=
  ⟨k.1, fun w hw' => WAny.pass ho hs hf hr hd hw (k.1.I hw') (k.2 w hw')⟩

/-- what comes behind an operation of a region that draws -/
def KAny (P : Program) (n : Sz) (ops : Array Oper) (Q : Post) (T : List Pt) (fuel : Nat) (listed : Array Bool) : Env → World → Prop :=
  fun e w => TkI T w ∧ WAny P n ops Q (TkI T) fuel listed e w
theorem Any.toK (h : Any P n ops Q c L T fuel listed e) : Ent c L (KAny P n ops Q T fuel listed) e := fun w hw => ⟨h.1.I hw, h.2 w hw⟩

theorem Any.one (i : Nat) (ho : ops[i]? = some o) (hw : wantedE ops e o = true) (hr : Region.ready .any ops listed = [i]) (hT : TkR c L T)
    (h : Ent c L (OpS P n o (KAny P n ops Q T fuel (listed.setIfInBounds i true))) e) : Any P n ops Q c L T (fuel + 1) listed e :=
  ⟨hT, fun w hs => WAny.branch [i] hr rfl ⟨⟨o, ho, hw, h w hs⟩, trivial⟩⟩
theorem Any.two (i j : Nat) {o' : Oper} (ho : ops[i]? = some o) (ho' : ops[j]? = some o') (hw : wantedE ops e o = true) (hw' : wantedE ops e o' = true) (hr : Region.ready .any ops listed = [i, j]) (hT : TkR c L T)
    (h : Ent c L (OpS P n o (KAny P n ops Q T fuel (listed.setIfInBounds i true))) e)
    (h' : Ent c L (OpS P n o' (KAny P n ops Q T fuel (listed.setIfInBounds j true))) e) : Any P n ops Q c L T (fuel + 1) listed e :=
  ⟨hT, fun w hs => WAny.branch [i, j] hr rfl ⟨⟨o, ho, hw, h w hs⟩, ⟨o', ho', hw', h' w hs⟩, trivial⟩⟩
theorem Any.three (i j k : Nat) {o' o'' : Oper} (ho : ops[i]? = some o) (ho' : ops[j]? = some o') (ho'' : ops[k]? = some o'') (hw : wantedE ops e o = true) (hw' : wantedE ops e o' = true) (hw'' : wantedE ops e o'' = true)
    (hr : Region.ready .any ops listed = [i, j, k]) (hT : TkR c L T)
    (h : Ent c L (OpS P n o (KAny P n ops Q T fuel (listed.setIfInBounds i true))) e)
    (h' : Ent c L (OpS P n o' (KAny P n ops Q T fuel (listed.setIfInBounds j true))) e)
    (h'' : Ent c L (OpS P n o'' (KAny P n ops Q T fuel (listed.setIfInBounds k true))) e) : Any P n ops Q c L T (fuel + 1) listed e :=
  ⟨hT, fun w hs => WAny.branch [i, j, k] hr rfl ⟨⟨o, ho, hw, h w hs⟩, ⟨o', ho', hw', h' w hs⟩, ⟨o'', ho'', hw'', h'' w hs⟩, trivial⟩⟩
theorem Any.done (hr : Region.ready .any ops listed = []) (hT : TkR c L T) (h : Ent c L Q.nor e) : Any P n ops Q c L T fuel listed e :=
  ⟨hT, fun w hs => WAny.done hr (h w hs) fuel⟩

/-! ## code -/
theorem Cd.region {id : Nat} (l : List Nat) (hl : List.range ops.size = l) (h : Ent c L (WOps P n ops Q l) e) : Ent c L (WP P n (.region id ops false) Q) e :=
  fun w hs => WP.region (by rw [hl]; exact h w hs)
theorem Cd.draw {id : Nat} (k : Nat) (hk : ops.size = k) (hm : P.follows .mixedOrders = true) (h : Any P n ops Q c L [] k (Array.replicate k false) e) :
    Ent c L (WP P n (.region id ops true) Q) e := fun _ hs => WP.draw hm (by subst hk; exact h.2 _ (hs.drew _))
/-- two codes: the second is kept behind a name -/
theorem Cd.seq {x y : Code} (h : ∀ K : EW, (∀ {e' : Env} {L' : List Pt}, Ent c L' (WP P n y Q) e' → Ent c L' K e') → Ent c L (WP P n x { Q with nor := K }) e) :
    Ent c L (WP P n (.seq x y) Q) e := fun w hs => WP.seq (h _ (fun h => h) w hs)
theorem Cd.skip (h : Ent c L Q.nor e) : Ent c L (WP P n .skip Q) e := fun w hs => WP.skip (h w hs)
theorem Cd.exit {id : Nat} (h : Ent c L (Q.ex id) e) : Ent c L (WP P n (.exit id) Q) e := fun w hs => WP.exit (h w hs)
theorem Cd.ret (h : Ent c L Q.ret e) : Ent c L (WP P n .ret Q) e := fun w hs => WP.ret (h w hs)
theorem Cd.block {id : Nat} {x : Code} (h : Ent c L (WP P n x { Q with ex := fun i => bif Nat.beq i id then Q.nor else Q.ex i }) e) : Ent c L (WP P n (.block id x) Q) e := fun w hs => WP.block (h w hs)
theorem Cd.condT {o : Operand} {x y : Code} (ho : ev e o = .bool true) (h : Ent c L (WP P n x Q) e) : Ent c L (WP P n (.cond o x y) Q) e := fun w hs => WP.condT ho (h w hs)
theorem Cd.condF {o : Operand} {x y : Code} (ho : ev e o = .bool false) (h : Ent c L (WP P n y Q) e) : Ent c L (WP P n (.cond o x y) Q) e := fun w hs => WP.condF ho (h w hs)
theorem Cd.cond {o : Operand} {x y : Code} (b : Bool) (ho : ev e o = .bool b) (ht : b = true → Ent c L (WP P n x Q) e) (hf : b = false → Ent c L (WP P n y Q) e) :
    Ent c L (WP P n (.cond o x y) Q) e := by
  cases b
  · exact Cd.condF ho (hf rfl)
  · exact Cd.condT ho (ht rfl)
/-- a test on a proposition -/
theorem Cd.if {o : Operand} {x y : Code} (p : Prop) [Decidable p] (ho : ev e o = .bool (decide p)) (ht : p → Ent c L (WP P n x Q) e) (hf : ¬ p → Ent c L (WP P n y Q) e) :
    Ent c L (WP P n (.cond o x y) Q) e :=
  Cd.cond _ ho (fun h => ht (of_decide_eq_true h)) (fun h => hf (of_decide_eq_false h))
theorem Cd.ifn {o : Operand} {x y : Code} (p : Prop) [Decidable p] (ho : ev e o = .bool (!decide p)) (ht : ¬ p → Ent c L (WP P n x Q) e) (hf : p → Ent c L (WP P n y Q) e) :
    Ent c L (WP P n (.cond o x y) Q) e :=
  Cd.cond _ ho (fun h => ht (by simpa using h)) (fun h => hf (by simpa using h))
theorem Cd.loop {x : Code} (I : Nat → Env → List Pt → Prop) (m : Nat) (h0 : I m e L)
    (round : ∀ m e L, I m e L → ∀ K : EW, (∀ {e' : Env} {L' : List Pt} (m' : Nat), m' < m → I m' e' L' → Ent c L' K e') → Ent c L (WP P n x { Q with nor := K }) e) : Ent c L (WP P n (.loop x) Q) e :=
  fun w hs => WP.loop (fun m e w => ∃ L, I m e L ∧ St c L w) m ⟨L, h0, hs⟩ fun m e _ ⟨L, hI, hs⟩ =>
    round m e L hI _ (fun {_} {L'} m' hm h _ hw => ⟨m', hm, L', h, hw⟩) _ hs

/-! ## functions -/
/-- the results that a frame holds -/
def ResOk (P : Program) (fn : Func) (c : Cx) (L : List Pt) (e : Env) (v : Value) : Prop := ∀ w, St c L w → (resE fn e).run P w = .ok v w

theorem Fn.enter {f : FuncId} {fn : Func} {x : Code} {args : List Value} {post : Value → List Pt → Prop} (hf : P.funcs[f]? = some fn) (hb : fn.body = some x)
    (n : Nat) (hn : fn.ntmps = n) (hl : args.length.ble n = true)
    (h : ∀ R : EW, (∀ {e : Env} {L' : List Pt} (v : Value) (L'' : List Pt), ResOk P fn c L' e v → post v L'' → L''.Sublist L' → Ent c L' R e) → Ent c L (WP P ⟨n, []⟩ x (retP R)) (argE args)) :
    Fn P f args.toArray c L post := by
  subst hn
  intro w hs
  refine (calls_enter (K := fun v w => ∃ L', post v L' ∧ St c L' w) hf hb (Nat.le_of_ble_eq_true hl) (h _ ?_ w hs)).mono fun x w' ⟨v, h1, L', h2, h3⟩ => ⟨v, h1, L', h2, h3⟩
  intro e L' v L'' hr hp hsub w hw
  exact ⟨v, hr w hw, L'', hp, hw.sub hsub⟩

theorem Res.zero {fn : Func} (hr : fn.results = #[]) : ResOk P fn c L e (.tuple #[]) := fun w _ => by simp [resE, hr]
theorem Res.one {fn : Func} {t : Tmp} {v : Value} (hr : fn.results = #[.tmp t]) (hv : e t = v) : ResOk P fn c L e v := fun w _ => by
  subst hv; simp [resE, hr]
theorem Res.two {fn : Func} {t u : Tmp} {v v' : Value} (hr : fn.results = #[.tmp t, .tmp u]) (hv : e t = v) (hv' : e u = v') : ResOk P fn c L e (.tuple #[v, v']) := fun w _ => by
  subst hv hv'; simp [resE, hr]
theorem Res.three {fn : Func} {t u s : Tmp} {v v' v'' : Value} (hr : fn.results = #[.tmp t, .tmp u, .tmp s]) (hv : e t = v) (hv' : e u = v') (hv'' : e s = v'') :
    ResOk P fn c L e (.tuple #[v, v', v'']) := fun w _ => by
  subst hv hv' hv''; simp [resE, hr]
end ops
end Go.X
