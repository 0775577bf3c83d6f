/- The engine, part 3: what single operations do. -/
import Derived.Laws.StructEq
import Derived.Maps.Keyed
import Derived.DeepKeys4
import Derived.Laws.Externs
import Derived.Lib.Bytealg
import Derived.Test.YthifdialndcemaaGreatProg
import Derived.Laws.Append
import Derived.Test.YthifdialndcemaaGreatS0
set_option linter.unusedVariables false
set_option linter.unusedSimpArgs false

namespace Go.X

section
variable {P : Program} {n : Sz} {e : Env} {d : Option Tmp} {ty : TypeId} {p : String} {af : Array Edge} {g : Option (Nat × Bool)}
variable {c : Cx} {L : List Pt} {x y z : Operand} {v v' : Value}

/-! ## literal rows -/
theorem r1_0 {a0 : Value} : (#[a0] : Array Value)[0]? = some a0 := rfl
theorem r2_0 {a0 a1 : Value} : (#[a0, a1] : Array Value)[0]? = some a0 := rfl
theorem r2_1 {a0 a1 : Value} : (#[a0, a1] : Array Value)[1]? = some a1 := rfl
theorem r3_0 {a0 a1 a2 : Value} : (#[a0, a1, a2] : Array Value)[0]? = some a0 := rfl
theorem r3_1 {a0 a1 a2 : Value} : (#[a0, a1, a2] : Array Value)[1]? = some a1 := rfl
theorem r3_2 {a0 a1 a2 : Value} : (#[a0, a1, a2] : Array Value)[2]? = some a2 := rfl
theorem r4_0 {a0 a1 a2 a3 : Value} : (#[a0, a1, a2, a3] : Array Value)[0]? = some a0 := rfl
theorem r4_1 {a0 a1 a2 a3 : Value} : (#[a0, a1, a2, a3] : Array Value)[1]? = some a1 := rfl
theorem r4_2 {a0 a1 a2 a3 : Value} : (#[a0, a1, a2, a3] : Array Value)[2]? = some a2 := rfl
theorem r4_3 {a0 a1 a2 a3 : Value} : (#[a0, a1, a2, a3] : Array Value)[3]? = some a3 := rfl
/-! ## moves -/
theorem O.move (hx : ev e x = v) : Rn0 P e ⟨d, .move x, ty, p, af, g⟩ v := fun w => by subst hx; rfl
theorem O.assign (hx : ev e x = v) : Rn0 P e ⟨d, .assign x, ty, p, af, g⟩ v := fun w => by subst hx; rfl
theorem O.pickT (hx : ev e x = .bool true) (hy : ev e y = v) : Rn0 P e ⟨d, .pick x y z, ty, p, af, g⟩ v := fun w => by
  subst hy; simp [execOp, hx, asBool]
theorem O.pickF (hx : ev e x = .bool false) (hz : ev e z = v) : Rn0 P e ⟨d, .pick x y z, ty, p, af, g⟩ v := fun w => by
  subst hz; simp [execOp, hx, asBool]
theorem O.nilP {a : Addr} (hx : ev e x = .pointer (some a)) : Rn0 P e ⟨d, .nilCheck x, ty, p, af, g⟩ (.pointer (some a)) := fun w => by
  simp [execOp, hx]
theorem O.ext {vs : Array Value} {i : Nat} (hx : ev e x = .tuple vs) (hv : vs[i]? = some v) : Rn0 P e ⟨d, .extract x i, ty, p, af, g⟩ v := fun w => by
  simp [execOp, hx, Instr.extract, hv]
theorem O.mkFunc {f : FuncId} {fs cs : Array Operand} {fs' cs' : Array Value} (h1 : fs.map (ev e) = fs') (h2 : cs.map (ev e) = cs') :
    Rn0 P e ⟨d, .makeFunc (.func f) fs cs, ty, p, af, g⟩ (.func (.func f) fs' cs') := fun w => by
  subst h1 h2; simp [execOp, Instr.makeFunc]

/-! ## types -/
def kindOf (P : Program) (t : TypeId) : Option (Bool × Nat) :=
  match P.underlying t, P.info? t with
  | some (.struct _), some i => some (true, i.size)
  | some (.array _ _), some i => some (true, i.size)
  | some _, some i => some (false, i.size)
  | _, _ => none
def fieldOff (P : Program) (s i : Nat) : Option Nat :=
  match P.underlying s with
  | some (.struct fs) => match fs[i]? with
    | some f => if P.cellsOf f.type = 0 then none else match P.info? f.type with
      | some _ => some f.offset
      | none => none
    | none => none
  | _ => none
def sliceOf (P : Program) (t : TypeId) : Option (TypeId × Nat) :=
  match P.underlying t with
  | some (.slice el) => match P.info? el with
    | some i => some (el, i.size)
    | none => none
  | _ => none
def arrayOf (P : Program) (t : TypeId) : Option (Nat × TypeId × Nat) :=
  match P.underlying t with
  | some (.array m el) => match P.info? el with
    | some i => some (m, el, i.size)
    | none => none
  | _ => none
def zeroOf (P : Program) (t : TypeId) : Option Value := (P.info? t).bind (·.zero)

theorem run_under {t : TypeId} {D : TypeDesc} (h : P.underlying t = some D) (w : World) : (underlying t).run P w = .ok D w := run_underlying h w
theorem run_info {t : TypeId} {i : TypeInfo} (h : P.info? t = some i) (w : World) : (typeInfo t).run P w = .ok i w := by
  simp [typeInfo, h]
theorem run_size {t : TypeId} {i : TypeInfo} (h : P.info? t = some i) (w : World) : (sizeOf t).run P w = .ok i.size w := by
  simp [sizeOf, run_info h]
theorem run_zero {t : TypeId} {z : Value} (h : zeroOf P t = some z) (w : World) : (zeroValue t).run P w = .ok z w := by
  unfold zeroOf at h
  cases hi : P.info? t with
  | none => simp [hi] at h
  | some i => simp only [hi, Option.bind_some] at h; simp [zeroValue, run_info hi, h]

theorem Addr.add_none (b o k : Nat) : (⟨b, o, none⟩ : Addr).add k = ⟨b, o + k, none⟩ := by
  unfold Addr.add; split
  · subst_vars; rfl
  · rfl

theorem O.field {s i k b o : Nat} (hf : fieldOff P s i = some k) (hx : ev e x = .pointer (some ⟨b, o, none⟩)) :
    Rn0 P e ⟨d, .fieldAddr s x i, ty, p, af, g⟩ (.pointer (some ⟨b, o + k, none⟩)) := fun w => by
  unfold fieldOff at hf
  split at hf
  · rename_i fs hu
    split at hf
    · rename_i f hfi
      split at hf
      · cases hf
      · rename_i hc
        split at hf
        · rename_i i hi
          have hk : f.offset = k := by simpa using hf
          have hsz : i.size ≠ 0 := by simpa [Program.cellsOf, hi] using hc
          simp [execOp, hx, Instr.fieldAt, run_under hu, hfi, Instr.sureAddr, fieldPlace, run_size hi, hsz, Addr.add_none, hk]
        · cases hf
    · cases hf
  · cases hf

theorem O.index {t el sz b o len cap : Nat} {k : IntKind} {i : Int} (ht : sliceOf P t = some (el, sz)) (hx : ev e x = .slice (some ⟨b, o, none⟩) len cap) (hy : ev e y = .int k i)
    (h0 : 0 ≤ i) (h1 : i < len) : Rn0 P e ⟨d, .indexAddr t x y, ty, p, af, g⟩ (.pointer (some ⟨b, o + i.toNat * sz, none⟩)) := fun w => by
  unfold sliceOf at ht
  split at ht
  · rename_i el' hu
    split at ht
    · rename_i inf hi
      obtain ⟨rfl, rfl⟩ : el' = el ∧ inf.size = sz := by simpa using ht
      simp [execOp, hx, hy, Instr.indexAt, asIntOf, run_under hu, h0, h1, run_size hi, Addr.add_none]
    · cases ht
  · cases ht

theorem O.indexA {t el m sz b o : Nat} {k : IntKind} {i : Int} (ht : arrayOf P t = some (m, el, sz)) (hx : ev e x = .pointer (some ⟨b, o, none⟩)) (hy : ev e y = .int k i)
    (h0 : 0 ≤ i) (h1 : i < m) : Rn0 P e ⟨d, .indexAddr t x y, ty, p, af, g⟩ (.pointer (some ⟨b, o + i.toNat * sz, none⟩)) := fun w => by
  unfold arrayOf at ht
  split at ht
  · rename_i m' el' hu
    split at ht
    · rename_i inf hi
      obtain ⟨rfl, rfl, rfl⟩ : m' = m ∧ el' = el ∧ inf.size = sz := by simpa using ht
      simp [execOp, hx, hy, Instr.indexAt, asIntOf, run_under hu, h0, h1, run_size hi, Addr.add_none, Instr.sureAddr]
    · cases ht
  · cases ht

/-! ## loads -/
theorem cell_get {w : World} {b o : Nat} {cs : Array Value} {el : TypeId} {fz : Nat × Nat} (h : w.heap[b]? = some (.cells cs el fz)) :
    w.cell? ⟨b, o, none⟩ = cs[o]? := by simp [World.cell?, h]

theorem run_isAgg {t : TypeId} {ag : Bool} {m : Nat} (h : kindOf P t = some (ag, m)) (w : World) : (isAgg t).run P w = .ok ag w := by
  unfold kindOf at h
  split at h <;> rename_i h1 h2 <;> first
    | (cases h; done)
    | (simp at h; obtain ⟨rfl, _⟩ := h; simp [isAgg, run_under h1])
    | (simp at h; obtain ⟨rfl, _⟩ := h; rename_i D i hs ha
       simp only [isAgg, Sem.run_bind, run_under h1, Result.andThen_ok]
       cases D <;> first | rfl | (exact (hs _ _ h1 h2).elim) | (exact (ha _ _ _ h1 h2).elim))
theorem kind_info {t : TypeId} {ag : Bool} {m : Nat} (h : kindOf P t = some (ag, m)) : ∃ i, P.info? t = some i ∧ i.size = m := by
  unfold kindOf at h
  split at h
  · rename_i i h1 h2; exact ⟨i, h2, by simpa using (by simpa using h : _ ∧ _).2⟩
  · rename_i i h1 h2; exact ⟨i, h2, by simpa using (by simpa using h : _ ∧ _).2⟩
  · rename_i i _ _ h1 h2; exact ⟨i, h2, by simpa using (by simpa using h : _ ∧ _).2⟩
  · cases h

theorem O.load {t m b o : Nat} {cs : Array Value} {el : TypeId} {fz : Nat × Nat} (ht : kindOf P t = some (false, m)) (hx : ev e x = .pointer (some ⟨b, o, none⟩))
    (hc : cs[o]? = some v) : Rn1 P e ⟨d, .load t x, ty, p, af, g⟩ b (.cells cs el fz) v := fun w hb => by
  simp [execOp, hx, Instr.loadAt, Instr.sureAddr, loadVar, run_isAgg ht, cell_get hb, hc]

theorem run_loadRow {w : World} {b o m : Nat} {cs : Array Value} {el : TypeId} {fz : Nat × Nat} (hb : w.heap[b]? = some (.cells cs el fz)) (hm : o + m ≤ cs.size) :
    (loadCells ⟨b, o, none⟩ m).run P w = .ok (cs.extract o (o + m)) w := by
  rw [run_loadCells w _ m (fun j => cs.getD (o + j) undef)]
  · congr 1
    apply Array.ext
    · simp; omega
    · intro i h1 h2
      simp only [List.size_toArray, List.length_map, List.length_range] at h1
      have h3 : o + i < cs.size := by omega
      simp [h3]
  · intro j hj
    have h3 : o + j < cs.size := by omega
    rw [Addr.add_none, cell_get hb]
    simp [h3]

theorem O.loadA {t m b o : Nat} {cs : Array Value} {el : TypeId} {fz : Nat × Nat} {out : Array Value} (ht : kindOf P t = some (true, m)) (hx : ev e x = .pointer (some ⟨b, o, none⟩))
    (hm : o + m ≤ cs.size) (ho : cs.extract o (o + m) = out) : Rn1 P e ⟨d, .load t x, ty, p, af, g⟩ b (.cells cs el fz) (.agg out) := fun w hb => by
  subst ho
  obtain ⟨i, hi, rfl⟩ := kind_info ht
  simp [execOp, hx, Instr.loadAt, Instr.sureAddr, loadVar, run_isAgg ht, run_size hi, run_loadRow hb hm]

/-! ## stores -/
theorem setCell_blk {w : World} {b o : Nat} {cs : Array Value} {el : TypeId} {fz : Nat × Nat} (hb : w.heap[b]? = some (.cells cs el fz)) (v : Value) :
    w.setCell ⟨b, o, none⟩ v = setBlk w b (.cells (cs.setIfInBounds o v) el fz) := by
  have hlt := lt_of_get hb
  unfold World.setCell setBlk
  congr 1
  apply Array.ext
  · simp
  · intro i h1 h2
    simp only [Array.size_modify] at h1
    by_cases hi : b = i
    · subst hi
      have : w.heap[b] = .cells cs el fz := by simpa [hlt] using hb
      simp [Array.getElem_modify, this]
    · have hne : (w.heap.setIfInBounds b (.cells (cs.setIfInBounds o v) el fz))[i] = w.heap[i] := by
        rw [Array.getElem_setIfInBounds_ne _ hi]
      rw [hne]
      simp [Array.getElem_modify, hi]

def putL (cs : Array Value) (o : Nat) : List Value → Array Value
  | [] => cs
  | v :: vs => putL (cs.setIfInBounds o v) (o + 1) vs

theorem setBlk_twice (w : World) (b : Nat) (o o' : Obj) : setBlk (setBlk w b o) b o' = setBlk w b o' := by
  simp [setBlk]
theorem setBlk_self {w : World} {b : Nat} {o : Obj} (h : w.heap[b]? = some o) : setBlk w b o = w := by
  have hlt := lt_of_get h
  have : w.heap[b] = o := by simpa [hlt] using h
  unfold setBlk
  have h2 : w.heap.setIfInBounds b o = w.heap := by
    apply Array.ext
    · simp
    · intro i h1 h2
      by_cases hi : b = i
      · subst hi; simp [this]
      · rw [Array.getElem_setIfInBounds_ne _ hi]
  rw [h2]
theorem setBlk_get {w : World} {b : Nat} {o o' : Obj} (h : w.heap[b]? = some o) : (setBlk w b o').heap[b]? = some o' := by
  simp [setBlk, lt_of_get h]

theorem run_store1 {w : World} {b o : Nat} {cs : Array Value} {el : TypeId} (hb : w.heap[b]? = some (.cells cs el (0, 0))) (ho : o < cs.size) (hv : v.oneCell' = true) :
    (store ⟨b, o, none⟩ v).run P w = .ok () (setBlk w b (.cells (cs.setIfInBounds o v) el (0, 0))) := by
  rw [run_store P w _ v _ hv, cell_get hb]
  have : cs[o]? = some cs[o] := by simp [ho]
  rw [this]
  have hf : w.frozen? ⟨b, o, none⟩ = false := by simp [World.frozen?, hb]
  simp only [hf, Bool.false_eq_true, if_false]
  rw [setCell_blk hb]

theorem run_storeL {b : Nat} {el : TypeId} : ∀ (vs : List Value) (w : World) (o i : Nat) (cs : Array Value), w.heap[b]? = some (.cells cs el (0, 0)) → o + i + vs.length ≤ cs.size →
    (∀ v ∈ vs, v.oneCell' = true) → (storeCells ⟨b, o, none⟩ vs i).run P w = .ok () (setBlk w b (.cells (putL cs (o + i) vs) el (0, 0)))
  | [], w, o, i, cs, hb, _, _ => by simp [storeCells, putL, setBlk_self hb]
  | v :: vs, w, o, i, cs, hb, hs, hv => by
    simp only [List.length_cons] at hs
    simp only [storeCells, Sem.run_bind, Addr.add_none]
    rw [run_store1 hb (by omega) (hv v (by simp))]
    simp only [Result.andThen_ok]
    rw [run_storeL vs _ o (i + 1) _ (setBlk_get hb) (by simp; omega) (fun v hm => hv v (by simp [hm]))]
    rw [setBlk_twice]
    rfl

theorem O.store {t m b o : Nat} {ag : Bool} {cs : Array Value} {el : TypeId} (ht : kindOf P t = some (ag, m)) (hx : ev e x = .pointer (some ⟨b, o, none⟩)) (hy : ev e y = v)
    (hm : v.cells.size = m) (hs : o + m ≤ cs.size) (hv : ∀ u ∈ v.cells.toList, Value.oneCell' u = true) {cs' : Array Value} (hc : putL cs o v.cells.toList = cs') :
    Es P e ⟨d, .store t x y, ty, p, af, g⟩ b (.cells cs el (0, 0)) (.cells cs' el (0, 0)) undef := fun w hb => by
  subst hc hy
  obtain ⟨i, hi, rfl⟩ := kind_info ht
  refine ⟨.skip, ?_, .inr ⟨rfl, rfl⟩⟩
  simp only [execOp, hx, Instr.storeAt, Instr.sureAddr, storeVar, Sem.run_bind, Sem.run_pure, Result.andThen_ok, run_size hi, hm, ne_eq, not_true_eq_false, if_false]
  have := run_storeL (P := P) (el := el) (ev e y).cells.toList w o 0 cs hb (by simp [hm]; omega) hv
  simp only [Nat.add_zero] at this
  rw [this]
  rfl

/-- a store of one cell -/
theorem O.store1 {t b o : Nat} {cs : Array Value} {el : TypeId} (ht : kindOf P t = some (false, 1)) (hx : ev e x = .pointer (some ⟨b, o, none⟩)) (hy : ev e y = v)
    (hs : o < cs.size) (hv : v.oneCell' = true) {cs' : Array Value} (hc : cs.setIfInBounds o v = cs') :
    Es P e ⟨d, .store t x y, ty, p, af, g⟩ b (.cells cs el (0, 0)) (.cells cs' el (0, 0)) undef := by
  have hcells : v.cells = #[v] := by cases v <;> first | rfl | (simp [Value.oneCell'] at hv)
  exact O.store ht hx hy (by simp [hcells]) (by omega) (by simp [hcells, hv]) (by simpa [hcells, putL] using hc)

/-! ## new blocks -/
theorem O.box {t : TypeId} (hx : ev e x = v) {cs : Array Value} (hc : v.cells = cs) : En P e ⟨d, .box t x, ty, p, af, g⟩ (.cells cs t (0, 0)) (fun b => .pointer (some ⟨b, 0, none⟩)) := fun w => by
  subst hx hc
  simp [execOp, Instr.box, newVar, newRow]
theorem O.alloc {t : TypeId} {z : Value} (hz : zeroOf P t = some z) {cs : Array Value} (hc : z.cells = cs) :
    En P e ⟨d, .alloc t, ty, p, af, g⟩ (.cells cs t (0, 0)) (fun b => .pointer (some ⟨b, 0, none⟩)) := fun w => by
  subst hc
  simp [execOp, Instr.alloc, run_zero hz, newVar, newRow]
theorem O.makeMap {t : TypeId} : En P e ⟨d, .makeMap t none, ty, p, af, g⟩ (.map #[] 0) (fun b => .map (some b)) := fun w => by
  simp [execOp, Instr.makeMap]

def placesOf (P : Program) (t : TypeId) : Option (Option (List (Nat × Nat)) × Nat) :=
  match P.underlying t with
  | some (.struct fs) => if fs.all (fun f => (P.info? f.type).isSome) then some (some (fs.toList.map fun f => (f.offset, P.cellsOf f.type)), 0) else none
  | some (.array _ el) => if (P.info? el).isSome then some (none, P.cellsOf el) else none
  | _ => none

theorem run_places (fs : List Field) (h : ∀ f ∈ fs, (P.info? f.type).isSome = true) (w : World) :
    (fs.toArray.mapM fun f : Field => do pure (f.offset, ← sizeOf f.type)).run P w = .ok (fs.map fun f => (f.offset, P.cellsOf f.type)).toArray w := by
  rw [List.mapM_toArray]
  have key : ∀ l : List Field, (∀ f ∈ l, (P.info? f.type).isSome = true) → (l.mapM fun f : Field => do pure (f.offset, ← sizeOf f.type)).run P w = .ok (l.map fun f => (f.offset, P.cellsOf f.type)) w := by
    intro l
    induction l with
    | nil => intro _; simp
    | cons f l ih =>
      intro h
      obtain ⟨i, hi⟩ := Option.isSome_iff_exists.1 (h f (by simp))
      rw [List.mapM_cons]
      simp only [Sem.run_bind, run_size hi, Result.andThen_ok, Sem.run_pure, ih (fun f hf => h f (by simp [hf])), List.map_cons]
      simp [Program.cellsOf, hi]
  simp only [Sem.run_map, key fs h, Result.andThen_ok]

/-- the cells of a literal -/
def builtOf (P : Program) (t : TypeId) (parts : List (Nat × Value)) : Option (Array Value) :=
  match zeroOf P t, placesOf P t with
  | some z, some (some pl, _) => Instr.fill (pl[·]?) z.cells parts
  | some z, some (none, sz) => Instr.fill (fun i => some (i * sz, sz)) z.cells parts
  | _, _ => none

theorem O.build {t : TypeId} {ps : Array (Nat × Operand)} {vs : List (Nat × Value)} (hps : (ps.map fun (i, x) => (i, ev e x)).toList = vs) {cs : Array Value} (hb : builtOf P t vs = some cs) :
    Rn0 P e ⟨d, .build t ps, ty, p, af, g⟩ (.agg cs) := fun w => by
  subst hps
  unfold builtOf at hb
  split at hb
  · rename_i z pl sz hz hp
    unfold placesOf at hp
    split at hp
    · rename_i fs hu
      split at hp
      · rename_i hall
        simp only [Option.some.injEq, Prod.mk.injEq] at hp
        obtain ⟨rfl, _⟩ := hp
        have hr := run_places (P := P) fs.toList (fun f hf => by simpa using (Array.all_eq_true_iff_forall_mem.1 hall f (by simpa using hf))) w
        simp only [Array.toArray_toList] at hr
        simp only [execOp, Instr.build, Sem.run_bind, run_zero hz, Result.andThen_ok, run_under hu, hr]
        simp only [List.getElem?_toArray, hb, Sem.run_pure, Result.andThen_ok]
      · cases hp
    · split at hp <;> simp at hp
    · cases hp
  · rename_i z sz hz hp
    unfold placesOf at hp
    split at hp
    · split at hp <;> simp at hp
    · rename_i m el hu
      split at hp
      · rename_i hi
        simp only [Option.some.injEq, Prod.mk.injEq, true_and] at hp
        subst hp
        obtain ⟨i, hi⟩ := Option.isSome_iff_exists.1 hi
        simp only [Program.cellsOf, hi, Option.map_some, Option.getD_some] at hb
        simp only [execOp, Instr.build, Sem.run_bind, run_zero hz, Result.andThen_ok, run_under hu, run_size hi, hb, Sem.run_pure]
      · cases hp
    · cases hp
  · cases hb

/-! ## calls -/
def hasBody (P : Program) (f : FuncId) : Bool :=
  match P.funcs[f]? with
  | some fn => fn.body.isSome && !(fn.name == "runtime.NumGoroutine")
  | none => false
theorem run_callFunc {f : FuncId} (h : hasBody P f = true) (args : Array Value) (w : World) : (callFunc f args).run P w = .ok (.enter f args) w := by
  unfold hasBody at h
  cases hf : P.funcs[f]? with
  | none => simp [hf] at h
  | some fn =>
    simp only [hf, Bool.and_eq_true, Bool.not_eq_true'] at h
    have hb : fn.body.isNone = false := by cases hh : fn.body <;> simp_all
    simp only [callFunc, Sem.run_bind, run_program, Result.andThen_ok, hf, h.2, hb, Bool.false_eq_true, if_false, Sem.run_pure]

theorem O.call {f : FuncId} {xs : Array Operand} {tys : Array TypeId} {args : List Value} (hb : hasBody P f = true) (ha : xs.toList.map (ev e) = args) :
    Ec P e ⟨d, .call { callee := .value (.func f), args := xs, argTypes := tys }, ty, p, af, g⟩ f args.toArray := fun w => by
  subst ha
  have h1 : xs.map (ev e) = (xs.toList.map (ev e)).toArray := by apply Array.ext'; simp
  rw [← h1]
  simp [execOp, resolve, ev, Deferred.ofValue, invoke, run_callFunc hb]
/-- a call of a function value -/
theorem O.callV {f : FuncId} {xs : Array Operand} {tys : Array TypeId} {fs cs : Array Value} {args : List Value} (hb : hasBody P f = true) (hx : ev e x = .func (.func f) fs cs) (ha : fs.toList ++ xs.toList.map (ev e) ++ cs.toList = args) :
    Ec P e ⟨d, .call { callee := .value x, args := xs, argTypes := tys }, ty, p, af, g⟩ f args.toArray := fun w => by
  subst ha
  have h1 : fs ++ xs.map (ev e) ++ cs = (fs.toList ++ xs.toList.map (ev e) ++ cs.toList).toArray := by apply Array.ext'; simp
  rw [← h1]
  simp [execOp, resolve, hx, Deferred.ofValue, invoke, run_callFunc hb]

theorem Op.callF {K : Env → World → Prop} {f : FuncId} {xs : Array Operand} {tt : Array TypeId} {args : List Value} {post : Value → List Pt → Prop} (hd : dstOk n d = true) (hb : hasBody P f = true)
    (hf : Fn P f args.toArray c L post) (ha : xs.toList.map (ev e) = args) (k : ∀ v L', post v L' → Ent c L' K (updO e d v)) :
    Ent c L (OpS P n ⟨d, .call { callee := .value (.func f), args := xs, argTypes := tt }, ty, p, af, g⟩ K) e := Op.call hd (O.call hb ha) hf k
theorem Op.callV {K : Env → World → Prop} {f : FuncId} {xs : Array Operand} {tt : Array TypeId} {fs cs : Array Value} {args : List Value} {post : Value → List Pt → Prop} (hd : dstOk n d = true) (hb : hasBody P f = true)
    (hx : ev e x = .func (.func f) fs cs) (hf : Fn P f args.toArray c L post) (ha : fs.toList ++ xs.toList.map (ev e) ++ cs.toList = args) (k : ∀ v L', post v L' → Ent c L' K (updO e d v)) :
    Ent c L (OpS P n ⟨d, .call { callee := .value x, args := xs, argTypes := tt }, ty, p, af, g⟩ K) e := Op.call hd (O.callV hb hx ha) hf k

/-! ## numbers -/
theorem O.lss {t : TypeId} {k : IntKind} {a b : Int} (hx : ev e x = .int k a) (hy : ev e y = .int k b) {t' : TypeId} : Rn0 P e ⟨d, .binOp .lss t x y t', ty, p, af, g⟩ (.bool (decide (a < b))) := fun w => by
  simp [execOp, hx, hy, eqGuard, binOp, Op.intCmp]
theorem O.leq {t : TypeId} {k : IntKind} {a b : Int} (hx : ev e x = .int k a) (hy : ev e y = .int k b) {t' : TypeId} : Rn0 P e ⟨d, .binOp .leq t x y t', ty, p, af, g⟩ (.bool (decide (a ≤ b))) := fun w => by
  simp [execOp, hx, hy, eqGuard, binOp, Op.intCmp]
theorem O.gtr {t : TypeId} {k : IntKind} {a b : Int} (hx : ev e x = .int k a) (hy : ev e y = .int k b) {t' : TypeId} : Rn0 P e ⟨d, .binOp .gtr t x y t', ty, p, af, g⟩ (.bool (decide (b < a))) := fun w => by
  simp [execOp, hx, hy, eqGuard, binOp, Op.intCmp]
theorem O.geq {t : TypeId} {k : IntKind} {a b : Int} (hx : ev e x = .int k a) (hy : ev e y = .int k b) {t' : TypeId} : Rn0 P e ⟨d, .binOp .geq t x y t', ty, p, af, g⟩ (.bool (decide (b ≤ a))) := fun w => by
  simp [execOp, hx, hy, eqGuard, binOp, Op.intCmp]
theorem beq_dec (a b : Int) : (a == b) = decide (a = b) := by by_cases h : a = b <;> simp [h]
theorem O.eqI {t : TypeId} {k : IntKind} {a b : Int} (hx : ev e x = .int k a) (hy : ev e y = .int k b) {t' : TypeId} : Rn0 P e ⟨d, .binOp .eql t x y t', ty, p, af, g⟩ (.bool (decide (a = b))) := fun w => by
  rw [← beq_dec]
  simp [execOp, hx, hy, eqGuard, binOp, Op.intCmp]
theorem O.neI {t : TypeId} {k : IntKind} {a b : Int} (hx : ev e x = .int k a) (hy : ev e y = .int k b) {t' : TypeId} : Rn0 P e ⟨d, .binOp .neq t x y t', ty, p, af, g⟩ (.bool (!decide (a = b))) := fun w => by
  rw [← beq_dec]
  simp [execOp, hx, hy, eqGuard, binOp, Op.intCmp, bne]
theorem wrap64_id {a : Int} (h0 : -9223372036854775808 ≤ a) (h1 : a < 9223372036854775808) : IntKind.i64.wrap a = a := by
  have h2 : IntKind.i64.wrap a = (if a % 18446744073709551616 ≥ 9223372036854775808 then a % 18446744073709551616 - 18446744073709551616 else a % 18446744073709551616) := by
    simp [IntKind.wrap, IntKind.bits, IntKind.signed]
  rw [h2]; split <;> omega
theorem O.add {t : TypeId} {a b : Int} (hx : ev e x = .int .i64 a) (hy : ev e y = .int .i64 b) {t' : TypeId} (h0 : -9223372036854775808 ≤ a + b) (h1 : a + b < 9223372036854775808) :
    Rn0 P e ⟨d, .binOp .add t x y t', ty, p, af, g⟩ (.int .i64 (a + b)) := fun w => by
  simp [execOp, hx, hy, eqGuard, binOp, Op.intArith, wrap64_id h0 h1]
theorem O.sub {t : TypeId} {a b : Int} (hx : ev e x = .int .i64 a) (hy : ev e y = .int .i64 b) {t' : TypeId} (h0 : -9223372036854775808 ≤ a - b) (h1 : a - b < 9223372036854775808) :
    Rn0 P e ⟨d, .binOp .sub t x y t', ty, p, af, g⟩ (.int .i64 (a - b)) := fun w => by
  simp [execOp, hx, hy, eqGuard, binOp, Op.intArith, wrap64_id h0 h1]
theorem O.not {t : TypeId} {b : Bool} (hx : ev e x = .bool b) : Rn0 P e ⟨d, .unOp .not t x, ty, p, af, g⟩ (.bool (!b)) := fun w => by
  simp [execOp, hx, Op.unary]

/-! ## comparing -/
def isDesc (P : Program) (t : TypeId) : Nat :=
  match P.underlying t with
  | some .bool => 1 | some (.int _) => 2 | some .string => 3 | some (.pointer _) => 4 | some (.slice _) => 5 | some (.map _ _) => 6 | some (.func _ _ _) => 7
  | some (.array _ _) => 8 | some (.struct _) => 9
  | _ => 0
theorem desc_ptr {t : TypeId} (h : isDesc P t = 4) : ∃ el, P.underlying t = some (.pointer el) := by
  unfold isDesc at h; split at h <;> first | (cases h; done) | (exact ⟨_, ‹_›⟩)
theorem desc_str {t : TypeId} (h : isDesc P t = 3) : P.underlying t = some .string := by
  unfold isDesc at h; split at h <;> first | (cases h; done) | assumption
theorem desc_map {t : TypeId} (h : isDesc P t = 6) : ∃ k el, P.underlying t = some (.map k el) := by
  unfold isDesc at h; split at h <;> first | (cases h; done) | (exact ⟨_, _, ‹_›⟩)
theorem desc_slice {t : TypeId} (h : isDesc P t = 5) : ∃ el, P.underlying t = some (.slice el) := by
  unfold isDesc at h; split at h <;> first | (cases h; done) | (exact ⟨_, ‹_›⟩)

theorem run_binop {op : BinOp} {t t' : TypeId} {w : World} {a b : Value} (hx : ev e x = a) (hy : ev e y = b) (hg : (eqGuard op t x y a b).run P w = .ok () w) (hb : (binOp op t a b).run P w = .ok v w) :
    (execOp (ev e) ⟨d, .binOp op t x y t', ty, p, af, g⟩).run P w = .ok (.value v) w := by
  subst hx hy
  simp only [execOp, Sem.run_bind, hg, hb, Result.andThen_ok, Sem.run_pure]
theorem eqIn_ptr (k : Nat) {t el : TypeId} (hu : P.underlying t = some (.pointer el)) (a : Option Addr) (w : World) : (Op.equalIn (k + 1) t (.pointer a) (.pointer none)).run P w = .ok a.isNone w := by
  cases a <;> simp [Op.equalIn, run_under hu]
theorem eq_ptr {t el : TypeId} (hu : P.underlying t = some (.pointer el)) (a : Option Addr) (w : World) : (Op.equal t (.pointer a) (.pointer none)).run P w = .ok a.isNone w := eqIn_ptr 9999 hu a w
theorem run_eql {t : TypeId} {a b : Value} {r : Bool} {w : World} (hb : binOp .eql t a b = do pure (.bool (← Op.equal t a b))) (h : (Op.equal t a b).run P w = .ok r w) : (binOp .eql t a b).run P w = .ok (.bool r) w := by
  rw [hb]; simp only [Sem.run_bind, h, Result.andThen_ok, Sem.run_pure]
theorem run_neq {t : TypeId} {a b : Value} {r : Bool} {w : World} (hb : binOp .neq t a b = do pure (.bool (!(← Op.equal t a b)))) (h : (Op.equal t a b).run P w = .ok r w) : (binOp .neq t a b).run P w = .ok (.bool (!r)) w := by
  rw [hb]; simp only [Sem.run_bind, h, Result.andThen_ok, Sem.run_pure]

theorem O.eqNil {t : TypeId} {a : Option Addr} (ht : isDesc P t = 4) (hx : ev e x = .pointer a) (hy : ev e y = .pointer none) {t' : TypeId} :
    Rn0 P e ⟨d, .binOp .eql t x y t', ty, p, af, g⟩ (.bool a.isNone) := fun w => by
  obtain ⟨el, hu⟩ := desc_ptr ht
  exact run_binop hx hy rfl (run_eql rfl (eq_ptr hu a w))
theorem str_dec (a b : ByteArray) : (a.toList == b.toList) = decide (a = b) := by
  rw [← beq_toListBytes]
  obtain ⟨x⟩ := a
  obtain ⟨y⟩ := b
  show (x == y) = _
  by_cases h : x = y
  · subst h; simp
  · simp [h]
theorem O.eqS {t : TypeId} {a b : ByteArray} (hx : ev e x = .string a) (hy : ev e y = .string b) {t' : TypeId} :
    Rn0 P e ⟨d, .binOp .eql t x y t', ty, p, af, g⟩ (.bool (decide (a = b))) := fun w => by rw [← str_dec]; exact run_binop hx hy rfl rfl
theorem O.neS {t : TypeId} {a b : ByteArray} (hx : ev e x = .string a) (hy : ev e y = .string b) {t' : TypeId} :
    Rn0 P e ⟨d, .binOp .neq t x y t', ty, p, af, g⟩ (.bool (!decide (a = b))) := fun w => by rw [← str_dec]; exact run_binop hx hy rfl rfl
/-! ## results in memory -/
theorem Res.cell {fn : Func} {t m b : Nat} {ty : TypeId} {cs out : Array Value} {el : TypeId} {fz : Nat × Nat} (hr : fn.results = #[.cell t ty]) (hk : kindOf P ty = some (true, m))
    (hv : e t = .pointer (some ⟨b, 0, none⟩)) (hb : Rd c L b (.cells cs el fz)) (hm : cs.size = m) : ResOk P fn c L e (.agg cs) := fun w hw => by
  subst hm
  obtain ⟨i, hi, hsz⟩ := kind_info hk
  have h2 := run_loadRow (P := P) (o := 0) (m := cs.size) (hb w hw) (by omega)
  simp [resE, hr, hv, asAddr, loadVar, run_isAgg hk, run_size hi, hsz, h2]
theorem Res.cell2 {fn : Func} {t u m b : Nat} {ty : TypeId} {cs : Array Value} {v : Value} {el : TypeId} {fz : Nat × Nat} (hr : fn.results = #[.cell t ty, .tmp u]) (hk : kindOf P ty = some (true, m))
    (hv : e t = .pointer (some ⟨b, 0, none⟩)) (hu : e u = v) (hb : Rd c L b (.cells cs el fz)) (hm : cs.size = m) : ResOk P fn c L e (.tuple #[.agg cs, v]) := fun w hw => by
  subst hm hu
  obtain ⟨i, hi, hsz⟩ := kind_info hk
  have h2 := run_loadRow (P := P) (o := 0) (m := cs.size) (hb w hw) (by omega)
  simp [resE, hr, hv, asAddr, loadVar, run_isAgg hk, run_size hi, hsz, h2]
/-! ## len -/
theorem O.lenS {t : TypeId} {a : Option Addr} {m cap : Nat} (ht : isDesc P t = 5) (hx : ev e x = .slice a m cap) :
    Rn0 P e ⟨d, .call { callee := .builtin .len, args := #[x], argTypes := #[t] }, ty, p, af, g⟩ (.int .i64 m) := fun w => by
  obtain ⟨el, hu⟩ := desc_slice ht
  simp [execOp, resolve, invoke, builtin, Builtin.len_, hx, run_under hu, goInt]
theorem O.lenT {t : TypeId} {s : ByteArray} (ht : isDesc P t = 3) (hx : ev e x = .string s) :
    Rn0 P e ⟨d, .call { callee := .builtin .len, args := #[x], argTypes := #[t] }, ty, p, af, g⟩ (.int .i64 s.size) := fun w => by
  have hu := desc_str ht
  simp [execOp, resolve, invoke, builtin, Builtin.len_, hx, run_under hu, goInt]
theorem O.lenM {t : TypeId} {b : Nat} {es : Array MapEntry} {ck : Nat} (ht : isDesc P t = 6) (hx : ev e x = .map (some b)) :
    Rn1 P e ⟨d, .call { callee := .builtin .len, args := #[x], argTypes := #[t] }, ty, p, af, g⟩ b (.map es ck) (.int .i64 es.size) := fun w hb => by
  obtain ⟨k, el, hu⟩ := desc_map ht
  simp [execOp, resolve, invoke, builtin, Builtin.len_, hx, run_under hu, goInt, getObj, Sem.run, hb]
end
end Go.X

/- The engine, part 4: slices, bytes, equality of keys, functions without a body. -/
namespace Go.X
section
variable {P : Program} {n : Sz} {e : Env} {d : Option Tmp} {ty : TypeId} {p : String} {af : Array Edge} {g : Option (Nat × Bool)}
variable {c : Cx} {L : List Pt} {x y z : Operand} {v v' : Value}

/-! ## slicing -/
theorem array_parts {t m el sz : Nat} (h : arrayOf P t = some (m, el, sz)) : P.underlying t = some (.array m el) ∧ ∃ i, P.info? el = some i ∧ i.size = sz := by
  unfold arrayOf at h
  split at h
  · rename_i m' el' hu
    split at h
    · rename_i i hi
      obtain ⟨rfl, rfl, rfl⟩ : m' = m ∧ el' = el ∧ i.size = sz := by simpa using h
      exact ⟨hu, i, hi, rfl⟩
    · cases h
  · cases h
theorem slice_parts {t el sz : Nat} (h : sliceOf P t = some (el, sz)) : P.underlying t = some (.slice el) ∧ ∃ i, P.info? el = some i ∧ i.size = sz := by
  unfold sliceOf at h
  split at h
  · rename_i el' hu
    split at h
    · rename_i i hi
      obtain ⟨rfl, rfl⟩ : el' = el ∧ i.size = sz := by simpa using h
      exact ⟨hu, i, hi, rfl⟩
    · cases h
  · cases h

/-- 'a[:]' of an array in memory -/
theorem O.sliceA {t m el sz b o : Nat} (ht : arrayOf P t = some (m, el, sz)) (hx : ev e x = .pointer (some ⟨b, o, none⟩)) :
    Rn0 P e ⟨d, .slice t x none none none, ty, p, af, g⟩ (.slice (some ⟨b, o, none⟩) m m) := fun w => by
  obtain ⟨hu, i, hi, rfl⟩ := array_parts ht
  simp [execOp, Instr.sliceAt, run_under hu, hx, Instr.sureAddr, Instr.sliceBounds, run_size hi, Addr.add_none]
/-- 'a[:h]' of an array in memory -/
theorem O.sliceAH {t m el sz b o : Nat} {k : IntKind} {i : Int} (ht : arrayOf P t = some (m, el, sz)) (hx : ev e x = .pointer (some ⟨b, o, none⟩)) (hy : ev e y = .int k i) (h0 : 0 ≤ i) (h1 : i ≤ m) :
    Rn0 P e ⟨d, .slice t x none (some y) none, ty, p, af, g⟩ (.slice (some ⟨b, o, none⟩) i.toNat m) := fun w => by
  obtain ⟨hu, j, hi, rfl⟩ := array_parts ht
  simp [execOp, Instr.sliceAt, run_under hu, hx, hy, Instr.sureAddr, Instr.sliceBounds, Instr.sliceBound, asIntOf, h0, h1, run_size hi, Addr.add_none]
/-- 's[:h]' -/
theorem O.sliceH {t el sz len cap : Nat} {a : Option Addr} {k : IntKind} {i : Int} (ht : sliceOf P t = some (el, sz)) (hx : ev e x = .slice a len cap) (hy : ev e y = .int k i) (h0 : 0 ≤ i) (h1 : i ≤ cap)
    (ha : ∀ q, a = some q → q.spot = none) :
    Rn0 P e ⟨d, .slice t x none (some y) none, ty, p, af, g⟩ (.slice a i.toNat cap) := fun w => by
  obtain ⟨hu, j, hi, rfl⟩ := slice_parts ht
  have hadd : a.map (fun q => q.add (0 * j.size)) = a := by
    cases a with
    | none => rfl
    | some q => simp [Addr.add]
  by_cases hc : cap = 0
  · simp [execOp, Instr.sliceAt, Instr.slice, run_under hu, hx, hy, Instr.sliceBounds, Instr.sliceBound, asIntOf, h0, h1, run_size hi, hc]
    omega
  · simp only [Nat.zero_mul] at hadd
    simp [execOp, Instr.sliceAt, Instr.slice, run_under hu, hx, hy, Instr.sliceBounds, Instr.sliceBound, asIntOf, h0, h1, run_size hi, hc, hadd]
/-- 's[l:]' -/
theorem O.sliceL {t el sz len cap b o : Nat} {k : IntKind} {i : Int} (ht : sliceOf P t = some (el, sz)) (hx : ev e x = .slice (some ⟨b, o, none⟩) len cap) (hy : ev e y = .int k i) (h0 : 0 ≤ i) (h1 : i ≤ len) :
    Rn0 P e ⟨d, .slice t x (some y) none none, ty, p, af, g⟩ (.slice (some (if cap = i.toNat then ⟨b, o, none⟩ else ⟨b, o + i.toNat * sz, none⟩)) (len - i.toNat) (cap - i.toNat)) := fun w => by
  obtain ⟨hu, j, hi, rfl⟩ := slice_parts ht
  by_cases hc : cap = i.toNat
  · simp [execOp, Instr.sliceAt, Instr.slice, run_under hu, hx, hy, Instr.sliceBounds, Instr.sliceBound, asIntOf, h0, h1, run_size hi, hc]
  · simp [execOp, Instr.sliceAt, Instr.slice, run_under hu, hx, hy, Instr.sliceBounds, Instr.sliceBound, asIntOf, h0, h1, run_size hi, hc, Addr.add_none]

/-! ## slices' literals -/
def builtSliceOf (P : Program) (t len : Nat) (parts : List (Nat × Value)) : Option (TypeId × Array Value) :=
  match sliceOf P t with
  | some (el, sz) =>
    if len * sz > 16777216 then none else
    match (if len * sz = 0 then some #[] else (zeroOf P el).map (·.cells)) with
    | some zero => (Instr.fill (fun i => some (i * sz, sz)) ((List.range (len * sz)).map (fun i => zero[i % zero.size]!)).toArray parts).map fun cs => (el, cs)
    | none => none
  | none => none
theorem O.buildSlice {t len el : Nat} {ps : Array (Nat × Operand)} {vs : List (Nat × Value)} (hps : ps.toList.map (fun q => (q.1, ev e q.2)) = vs) {cs : Array Value} (hb : builtSliceOf P t len vs = some (el, cs)) :
    En P e ⟨d, .buildSlice t len ps, ty, p, af, g⟩ (.cells cs el (0, 0)) (fun b => .slice (some ⟨b, 0, none⟩) len len) := fun w => by
  subst hps
  unfold builtSliceOf at hb
  split at hb
  · rename_i el' sz hs
    obtain ⟨hu, i, hi, rfl⟩ := slice_parts hs
    split at hb
    · cases hb
    · rename_i hlen
      split at hb
      · rename_i zero hz
        simp only [Option.map_eq_some_iff, Prod.mk.injEq] at hb
        obtain ⟨cs', hf, rfl, rfl⟩ := hb
        have hq : (ps.map fun (i, x) => (i, ev e x)).toList = ps.toList.map (fun q => (q.1, ev e q.2)) := by simp
        have hr : (Array.range (len * i.size)).map (fun i => zero[i % zero.size]!) = ((List.range (len * i.size)).map (fun i => zero[i % zero.size]!)).toArray := by
          apply Array.ext'; simp
        have hl2 : ¬ (len * i.size > 2 ^ 24) := by simpa using hlen
        by_cases h0 : len * i.size = 0
        · rw [if_pos h0] at hz
          obtain rfl := Option.some.inj hz
          simp only [execOp, Instr.buildSlice, Sem.run_bind, run_under hu, Result.andThen_ok, run_size hi, Sem.run_pure, h0, if_true, hq, show ¬ ((0 : Nat) > 2 ^ 24) by decide, if_false, Sem.run_ite]
          rw [h0] at hf hr
          rw [hr, hf]
          rfl
        · rw [if_neg h0] at hz
          simp only [Option.map_eq_some_iff] at hz
          obtain ⟨z, hz, rfl⟩ := hz
          simp only [execOp, Instr.buildSlice, Sem.run_bind, run_under hu, Result.andThen_ok, run_size hi, hl2, if_false, Sem.run_pure, h0, run_zero hz, hq]
          rw [hr, hf]
          rfl
      · cases hb
  · cases hb

/-! ## bytes -/
def byteV (x : UInt8) : Value := .int .u8 (x.toNat : Int)
theorem run_loadBytes {w : World} {b : Nat} {cs : Array Value} {el : TypeId} {fz : Nat × Nat} (hb : w.heap[b]? = some (.cells cs el fz)) :
    ∀ (l : List UInt8) (o : Nat) (acc : ByteArray), (∀ j x, l[j]? = some x → cs[o + j]? = some (byteV x)) →
      (Extern.Bytes.loadBytes ⟨b, o, none⟩ l.length acc).run P w = .ok ⟨acc.data ++ l.toArray⟩ w
  | [], o, acc, _ => by simp [Extern.Bytes.loadBytes]
  | x :: l, o, acc, h => by
    have h0 := h 0 x rfl
    simp only [Nat.add_zero] at h0
    have ih := run_loadBytes hb l (o + 1) (acc.push x) (fun j y hj => by have := h (j + 1) y (by simpa using hj); rwa [show o + (j + 1) = o + 1 + j by omega] at this)
    simp only [List.length_cons, Extern.Bytes.loadBytes, Sem.run_bind, run_load, cell_get hb, h0, byteV, Result.andThen_ok, Addr.add_none]
    have hx : ((x.toNat : Int).toNat).toUInt8 = x := by simp
    rw [hx]
    rw [ih]
    simp [ByteArray.push]
theorem run_bytesOf {w : World} {b o cap : Nat} {cs : Array Value} {el : TypeId} {fz : Nat × Nat} (hb : w.heap[b]? = some (.cells cs el fz)) (l : List UInt8)
    (h : ∀ j x, l[j]? = some x → cs[o + j]? = some (byteV x)) : (Extern.Bytes.bytesOf (.slice (some ⟨b, o, none⟩) l.length cap)).run P w = .ok ⟨l.toArray⟩ w := by
  have := run_loadBytes (P := P) hb l o .empty h
  simp only [Extern.Bytes.bytesOf, this]
  have h2 : ByteArray.empty.data ++ l.toArray = l.toArray := by show (#[] : Array UInt8) ++ l.toArray = l.toArray; simp
  rw [h2]

/-- a function without a body -/
theorem run_ext {f : FuncId} {fn : Func} {r : Array Value → Sem Value} (hf : P.funcs[f]? = some fn) (hname : (fn.name == "runtime.NumGoroutine") = false)
    (hb : fn.body.isNone = true) (hn : Extern.findNext fn = none) (he : Extern.find fn = some r) {args : List Value} {xs : Array Operand} {tt : Array TypeId} (ha : xs.toList.map (ev e) = args)
    {w w' : World} (hr : (r args.toArray).run P w = .ok v w') :
    (execOp (ev e) ⟨d, .call { callee := .value (.func f), args := xs, argTypes := tt }, ty, p, af, g⟩).run P w = .ok (.value v) w' := by
  subst ha
  have h1 : xs.map (ev e) = (xs.toList.map (ev e)).toArray := by apply Array.ext'; simp
  have h2 := run_callFunc_extern hf hname hb hn he (xs.map (ev e)) w
  rw [h1, hr] at h2
  simp only [Result.andThen_ok] at h2
  simp only [execOp, resolve, ev, Deferred.ofValue, Sem.run_bind, Sem.run_pure, Result.andThen_ok, invoke, List.append_nil, Array.append_empty, Array.empty_append, h1]
  simpa using h2

/-! ## keys -/
/-- the values of enc are keys of type k, told apart by enc -/
structure IsKey (P : Program) (k : TypeId) {α : Type} (enc : α → Value) : Prop where
  law : Maps.Keyed P k
  key : ∀ a, ∃ l, keyOf P k (enc a) = some l
  inj : ∀ a b, enc a = enc b → a = b

theorem run_eqKey {α : Type} [DecidableEq α] {k : TypeId} {enc : α → Value} (K : IsKey P k enc) {m : Nat} (hm : m ≤ 10000) (hk : P.keyTypeAt m k = true)
    (hwide : (match P.underlying k with | some (.array _ _) | some (.struct _) => true | _ => false) = true) (a b : α) (w : World) :
    (Op.equal k (enc a) (enc b)).run P w = .ok (decide (a = b)) w := by
  obtain ⟨la, ha⟩ := K.key a
  obtain ⟨lb, hb⟩ := K.key b
  obtain ⟨r, hr, hiff⟩ := run_equal_deep w hm hk hwide ha hb
  rw [hr]
  congr 1
  rw [Bool.eq_iff_iff, hiff]
  simp only [decide_eq_true_eq]
  constructor
  · rintro rfl; exact K.inj _ _ (K.law.inj ha hb)
  · rintro rfl; rw [ha] at hb; exact Option.some.inj hb

theorem O.eqK {α : Type} [DecidableEq α] {k t' : TypeId} {enc : α → Array Value} {a b : α} (K : IsKey P k (fun a => .agg (enc a))) {m : Nat} (hm : m.ble 10000 = true) (hk : P.keyTypeAt m k = true)
    (hwide : (match P.underlying k with | some (.array _ _) | some (.struct _) => true | _ => false) = true) (hg : P.eqGuardType P.depth k = false) (hx : ev e x = .agg (enc a)) (hy : ev e y = .agg (enc b)) :
    Rn0 P e ⟨d, .binOp .eql k x y t', ty, p, af, g⟩ (.bool (decide (a = b))) := fun w =>
  run_binop hx hy (by simp [eqGuard, hg]) (run_eql rfl (run_eqKey K (Nat.le_of_ble_eq_true hm) hk hwide a b w))
theorem O.neK {α : Type} [DecidableEq α] {k t' : TypeId} {enc : α → Array Value} {a b : α} (K : IsKey P k (fun a => .agg (enc a))) {m : Nat} (hm : m.ble 10000 = true) (hk : P.keyTypeAt m k = true)
    (hwide : (match P.underlying k with | some (.array _ _) | some (.struct _) => true | _ => false) = true) (hg : P.eqGuardType P.depth k = false) (hx : ev e x = .agg (enc a)) (hy : ev e y = .agg (enc b)) :
    Rn0 P e ⟨d, .binOp .neq k x y t', ty, p, af, g⟩ (.bool (!decide (a = b))) := fun w =>
  run_binop hx hy (by simp [eqGuard, hg]) (run_neq rfl (run_eqKey K (Nat.le_of_ble_eq_true hm) hk hwide a b w))
end
end Go.X

/- The data of the program, as plain Lean: keys, stamps, writes; and how they lie in cells. -/
namespace Go.X

structure Key where
  l : List UInt8
  h : l.length = 16
  deriving DecidableEq

theorem Key.ext' {a b : Key} (h : a.l = b.l) : a = b := by cases a; cases b; simp_all
/-- a key as its sixteen bytes -/
theorem Key.rec16 {C : Key → Prop} (h : ∀ x0 x1 x2 x3 x4 x5 x6 x7 x8 x9 x10 x11 x12 x13 x14 x15 : UInt8,
    C ⟨[x0, x1, x2, x3, x4, x5, x6, x7, x8, x9, x10, x11, x12, x13, x14, x15], rfl⟩) (k : Key) : C k := by
  obtain ⟨l, hl⟩ := k
  match l, hl with
  | [x0, x1, x2, x3, x4, x5, x6, x7, x8, x9, x10, x11, x12, x13, x14, x15], _ => exact h ..
def Key.zero : Key := ⟨[0, 0, 0, 0, 0, 0, 0, 0, 0, 0, 0, 0, 0, 0, 0, 0], rfl⟩
def kc (k : Key) (i : Nat) : Value := byteV (k.l.getD i 0)
def Key_enc (k : Key) : Array Value := #[kc k 0, kc k 1, kc k 2, kc k 3, kc k 4, kc k 5, kc k 6, kc k 7, kc k 8, kc k 9, kc k 10, kc k 11, kc k 12, kc k 13, kc k 14, kc k 15]
theorem byteV_inj {a b : UInt8} (h : byteV a = byteV b) : a = b := by
  simp only [byteV, Value.int.injEq, true_and] at h
  exact UInt8.toNat_inj.1 (by omega)
theorem Key_cells (k : Key) : Key_enc k = (k.l.map byteV).toArray := by
  revert k; apply Key.rec16; intros; rfl
theorem Key_inj {a b : Key} (h : Key_enc a = Key_enc b) : a = b := by
  apply Key.ext'
  rw [Key_cells, Key_cells] at h
  have h2 : a.l.map byteV = b.l.map byteV := by simpa using h
  have key : ∀ l m : List UInt8, l.map byteV = m.map byteV → l = m := by
    intro l
    induction l with
    | nil => intro m h; cases m with
      | nil => rfl
      | cons _ _ => simp at h
    | cons x l ih => intro m h; cases m with
      | nil => simp at h
      | cons y m =>
        simp only [List.map_cons, List.cons.injEq] at h
        rw [byteV_inj h.1, ih m h.2]
  exact key _ _ h2
theorem Key_size (k : Key) : (Key_enc k).size = 16 := rfl
theorem Key_all (k : Key) : (Key_enc k).extract 0 (0 + 16) = Key_enc k := by kernel_rfl
theorem Key_get {k : Key} {j : Nat} {x : UInt8} (h : k.l[j]? = some x) : (Key_enc k)[j]? = some (byteV x) := by
  rw [Key_cells]; simp [h]
theorem Key_one (k : Key) : ∀ u ∈ (Value.agg (Key_enc k)).cells.toList, Value.oneCell' u = true := by
  intro u hu
  rw [Key_cells] at hu
  simp [Value.cells] at hu
  obtain ⟨a, _, rfl⟩ := hu
  rfl
theorem putL_all : ∀ (vs : List Value) (pre : List Value) (cs : Array Value), cs.size = pre.length + vs.length → cs.toList.take pre.length = pre →
    putL cs pre.length vs = (pre ++ vs).toArray
  | [], pre, cs, h, ht => by
    apply Array.ext'
    simp only [putL, List.append_nil]
    have h5 : cs.size = pre.length := by simpa using h
    rw [← ht, List.take_of_length_le (by rw [Array.length_toList]; omega)]
  | v :: vs, pre, cs, h, ht => by
    simp only [List.length_cons] at h
    simp only [putL]
    have h2 := putL_all vs (pre ++ [v]) (cs.setIfInBounds pre.length v) (by simp; omega) (by
      apply List.ext_getElem?
      intro i
      by_cases hi : i < pre.length
      · have h3 : pre.length ≠ i := by omega
        have h4 := congrArg (fun l => l[i]?) ht
        simp only [List.getElem?_take, hi, if_true] at h4
        simp [List.getElem?_take, List.getElem?_append, hi, List.getElem?_set_ne h3, show i < pre.length + 1 by omega]
        simp only [Array.getElem?_toList] at h4
        rw [h4, List.getElem?_eq_getElem hi]
      · by_cases hi2 : i = pre.length
        · subst hi2
          simp [List.getElem?_take, show pre.length < cs.size by omega]
        · simp [List.getElem?_take, List.getElem?_append, show ¬ i < pre.length + 1 by omega, hi, show i - pre.length ≠ 0 by omega])
    simp only [List.length_append, List.length_cons, List.length_nil, Nat.zero_add] at h2
    rw [h2]
    simp
/-- a store over all cells -/
theorem putL_whole {cs vs : Array Value} (h : cs.size = vs.size) : putL cs 0 vs.toList = vs := by
  have := putL_all vs.toList [] cs (by simpa using h) (by simp)
  simpa using this
theorem Key_put (k : Key) {cs : Array Value} (h : cs.size = 16) : putL cs 0 (Value.agg (Key_enc k)).cells.toList = Key_enc k := putL_whole (h.trans (Key_size k).symm)
theorem Key_room {cs : Array Value} (h : cs.size = 16) : 0 + 16 ≤ cs.size := by omega

/-- a slice as it lies in a cell -/
structure Sv where
  a : Option Addr
  n : Nat
  c : Nat
  deriving DecidableEq
def Sv.v (s : Sv) : Value := .slice s.a s.n s.c

structure Stamp where
  t : Int
  n : Int
  deriving DecidableEq
def Stamp_enc (a : Stamp) : Array Value := #[.int .i64 a.t, .int .u8 a.n]
theorem Stamp_size (a : Stamp) : (Stamp_enc a).size = 2 := rfl
theorem Stamp_all (a : Stamp) : (Stamp_enc a).extract 0 (0 + 2) = Stamp_enc a := by kernel_rfl
theorem Stamp_t (a : Stamp) : (Stamp_enc a)[0]? = some (.int .i64 a.t) := rfl
theorem Stamp_n (a : Stamp) : (Stamp_enc a)[1]? = some (.int .u8 a.n) := rfl
theorem Stamp_one (a : Stamp) : ∀ u ∈ (Value.agg (Stamp_enc a)).cells.toList, Value.oneCell' u = true := by
  intro u hu
  simp only [Value.cells, Stamp_enc, List.mem_cons, List.not_mem_nil, or_false] at hu
  rcases hu with rfl | rfl <;> rfl
theorem Stamp_put (a : Stamp) {cs : Array Value} (h : cs.size = 2) : putL cs 0 (Value.agg (Stamp_enc a)).cells.toList = Stamp_enc a := putL_whole (h.trans (Stamp_size a).symm)
theorem Stamp_room {cs : Array Value} (h : cs.size = 2) : 0 + 2 ≤ cs.size := by omega
def Stamp.zero : Stamp := ⟨0, 0⟩

structure Write where
  key : Key
  val : ByteArray
  gone : Bool
  deriving DecidableEq
def Write_enc (a : Write) : Array Value := #[kc a.key 0, kc a.key 1, kc a.key 2, kc a.key 3, kc a.key 4, kc a.key 5, kc a.key 6, kc a.key 7, kc a.key 8, kc a.key 9, kc a.key 10, kc a.key 11, kc a.key 12, kc a.key 13, kc a.key 14, kc a.key 15, .string a.val, .bool a.gone]
theorem Write_size (a : Write) : (Write_enc a).size = 18 := rfl
theorem Write_all (a : Write) : (Write_enc a).extract 0 (0 + 18) = Write_enc a := by kernel_rfl
theorem Write_key (a : Write) : (Write_enc a).extract 0 (0 + 16) = Key_enc a.key := by kernel_rfl
theorem Write_val (a : Write) : (Write_enc a)[16]? = some (.string a.val) := rfl
theorem Write_gone (a : Write) : (Write_enc a)[17]? = some (.bool a.gone) := rfl
theorem Write_one (a : Write) : ∀ u ∈ (Value.agg (Write_enc a)).cells.toList, Value.oneCell' u = true := by
  intro u hu
  simp only [Value.cells, Write_enc, List.mem_cons, List.not_mem_nil, or_false] at hu
  rcases hu with rfl | rfl | rfl | rfl | rfl | rfl | rfl | rfl | rfl | rfl | rfl | rfl | rfl | rfl | rfl | rfl | rfl | rfl <;> rfl
theorem Write_put (a : Write) {cs : Array Value} (h : cs.size = 18) : putL cs 0 (Value.agg (Write_enc a)).cells.toList = Write_enc a := putL_whole (h.trans (Write_size a).symm)
theorem Write_room {cs : Array Value} (h : cs.size = 18) : 0 + 18 ≤ cs.size := by omega
def Write.zero : Write := ⟨.zero, ⟨#[]⟩, false⟩

structure Item where
  key : Key
  val : ByteArray
  deriving DecidableEq
def Item_enc (a : Item) : Array Value := #[kc a.key 0, kc a.key 1, kc a.key 2, kc a.key 3, kc a.key 4, kc a.key 5, kc a.key 6, kc a.key 7, kc a.key 8, kc a.key 9, kc a.key 10, kc a.key 11, kc a.key 12, kc a.key 13, kc a.key 14, kc a.key 15, .string a.val]
theorem Item_size (a : Item) : (Item_enc a).size = 17 := rfl
theorem Item_key (a : Item) : (Item_enc a).extract 0 (0 + 16) = Key_enc a.key := by kernel_rfl
theorem Item_one (a : Item) : ∀ u ∈ (Value.agg (Item_enc a)).cells.toList, Value.oneCell' u = true := by
  intro u hu
  simp only [Value.cells, Item_enc, List.mem_cons, List.not_mem_nil, or_false] at hu
  rcases hu with rfl | rfl | rfl | rfl | rfl | rfl | rfl | rfl | rfl | rfl | rfl | rfl | rfl | rfl | rfl | rfl | rfl <;> rfl
def Item.zero : Item := ⟨.zero, ⟨#[]⟩⟩

structure Version where
  stamp : Stamp
  val : ByteArray
  gone : Bool
  deriving DecidableEq
def Version_enc (a : Version) : Array Value := #[.int .i64 a.stamp.t, .int .u8 a.stamp.n, .string a.val, .bool a.gone]
theorem Version_size (a : Version) : (Version_enc a).size = 4 := rfl
theorem Version_all (a : Version) : (Version_enc a).extract 0 (0 + 4) = Version_enc a := by kernel_rfl
theorem Version_stamp (a : Version) : (Version_enc a).extract 0 (0 + 2) = Stamp_enc a.stamp := by kernel_rfl
theorem Version_val (a : Version) : (Version_enc a)[2]? = some (.string a.val) := rfl
theorem Version_gone (a : Version) : (Version_enc a)[3]? = some (.bool a.gone) := rfl
theorem Version_one (a : Version) : ∀ u ∈ (Value.agg (Version_enc a)).cells.toList, Value.oneCell' u = true := by
  intro u hu
  simp only [Value.cells, Version_enc, List.mem_cons, List.not_mem_nil, or_false] at hu
  rcases hu with rfl | rfl | rfl | rfl <;> rfl
theorem Version_put (a : Version) {cs : Array Value} (h : cs.size = 4) : putL cs 0 (Value.agg (Version_enc a)).cells.toList = Version_enc a := putL_whole (h.trans (Version_size a).symm)
theorem Version_room {cs : Array Value} (h : cs.size = 4) : 0 + 4 ≤ cs.size := by omega
def Version.zero : Version := ⟨.zero, ⟨#[]⟩, false⟩

structure Chain where
  l : Sv
  deriving DecidableEq
def Chain_enc (a : Chain) : Array Value := #[.slice a.l.a a.l.n a.l.c]
def Chain.zero : Chain := ⟨⟨none, 0, 0⟩⟩

structure Entry where
  id : Int
  snap : Stamp
  stamp : Stamp
  ws : Sv
  deriving DecidableEq
def Entry_enc (a : Entry) : Array Value := #[.int .i64 a.id, .int .i64 a.snap.t, .int .u8 a.snap.n, .int .i64 a.stamp.t, .int .u8 a.stamp.n, .slice a.ws.a a.ws.n a.ws.c]
def Entry.zero : Entry := ⟨0, .zero, .zero, ⟨none, 0, 0⟩⟩

/-- an order of numbers -/
def cmpI (a b : Int) : Int := if a < b then -1 else if b < a then 1 else 0
def Stamp.cmp (a b : Stamp) : Int := if cmpI a.t b.t = 0 then cmpI a.n b.n else cmpI a.t b.t
def Stamp.good (a : Stamp) : Prop := 0 ≤ a.t ∧ a.t ≤ 36028797018963967
instance (a : Stamp) : Decidable a.good := by unfold Stamp.good; infer_instance
def Key.cmp (a b : Key) : Int := Lib.compareBytes a.l b.l

/-! ## rows: slices of structs -/
def rows {α : Type} (enc : α → Array Value) (l : List α) : Array Value := (l.flatMap fun x => (enc x).toList).toArray
section
variable {α : Type} {enc : α → Array Value} {sz : Nat}
theorem rows_size (hs : ∀ x, (enc x).size = sz) (l : List α) : (rows enc l).size = l.length * sz := by
  induction l with
  | nil => simp [rows]
  | cons x l ih =>
    have h2 : (rows enc (x :: l)).size = (enc x).size + (rows enc l).size := by simp [rows]
    rw [h2, ih, hs, List.length_cons, Nat.succ_mul]; omega
theorem rows_get (hs : ∀ x, (enc x).size = sz) {sp : Array Value} : ∀ {l : List α} {i : Nat} {x : α}, l[i]? = some x → ∀ k, k < sz → (rows enc l ++ sp)[i * sz + k]? = (enc x)[k]?
  | y :: l, 0, x, h, k, hk => by
    have hx : y = x := by simpa using h
    subst hx
    have h2 : rows enc (y :: l) ++ sp = enc y ++ (rows enc l ++ sp) := by
      apply Array.ext'; simp [rows]
    rw [h2, Nat.zero_mul, Nat.zero_add, Array.getElem?_append_left (by rw [hs]; exact hk)]
  | y :: l, i + 1, x, h, k, hk => by
    have h2 : rows enc (y :: l) ++ sp = enc y ++ (rows enc l ++ sp) := by
      apply Array.ext'; simp [rows]
    have h3 : (i + 1) * sz + k = (enc y).size + (i * sz + k) := by rw [hs, Nat.succ_mul]; omega
    rw [h2, h3, Array.getElem?_append_right (by omega)]
    rw [show (enc y).size + (i * sz + k) - (enc y).size = i * sz + k by omega]
    exact rows_get hs (by simpa using h) k hk
theorem rows_room (hs : ∀ x, (enc x).size = sz) {sp : Array Value} {l : List α} {i : Nat} {x : α} (h : l[i]? = some x) : i * sz + sz ≤ (rows enc l ++ sp).size := by
  have hi : i < l.length := by
    rcases Nat.lt_or_ge i l.length with h' | h'
    · exact h'
    · rw [List.getElem?_eq_none h'] at h; cases h
  rw [Array.size_append, rows_size hs]
  have : (i + 1) * sz ≤ l.length * sz := Nat.mul_le_mul_right sz hi
  rw [Nat.succ_mul] at this
  omega
theorem rows_at (hs : ∀ x, (enc x).size = sz) {sp : Array Value} {l : List α} {i : Nat} {x : α} (h : l[i]? = some x) : (rows enc l ++ sp).extract (i * sz) (i * sz + sz) = enc x := by
  have hr := rows_room hs (sp := sp) h
  apply Array.ext
  · rw [Array.size_extract, hs]; omega
  · intro k h1 h2
    have hk : k < sz := by rw [hs] at h2; exact h2
    have h3 := rows_get hs (sp := sp) h k hk
    rw [Array.getElem?_eq_getElem (by omega), Array.getElem?_eq_getElem h2] at h3
    rw [Array.getElem_extract]
    exact Option.some.inj h3
theorem rowAt (hs : ∀ x, (enc x).size = sz) {sp : Array Value} {l : List α} {i : Int} {x : α} (h : l[i.toNat]? = some x) : (rows enc l ++ sp).extract (0 + i.toNat * sz) (0 + i.toNat * sz + sz) = enc x := by
  rw [Nat.zero_add]; exact rows_at hs h
theorem rowRoom (hs : ∀ x, (enc x).size = sz) {sp : Array Value} {l : List α} {i : Int} {x : α} (h : l[i.toNat]? = some x) : 0 + i.toNat * sz + sz ≤ (rows enc l ++ sp).size := by
  rw [Nat.zero_add]; exact rows_room hs h
theorem rowGet (hs : ∀ x, (enc x).size = sz) {sp : Array Value} {l : List α} {i : Int} {k : Nat} {x : α} (h : l[i.toNat]? = some x) (hk : k < sz) : (rows enc l ++ sp)[0 + i.toNat * sz + k]? = (enc x)[k]? := by
  rw [Nat.zero_add]; exact rows_get hs h k hk
theorem rowSub (hs : ∀ x, (enc x).size = sz) {sp : Array Value} {l : List α} {i : Int} {k m : Nat} {x : α} {out : Array Value} (h : l[i.toNat]? = some x) (hk : k + m ≤ sz) (ho : (enc x).extract k (k + m) = out) :
    (rows enc l ++ sp).extract (0 + i.toNat * sz + k) (0 + i.toNat * sz + k + m) = out := by
  subst ho
  have hr := rows_room hs (sp := sp) h
  have hx := hs x
  apply Array.ext
  · simp only [Array.size_extract]; omega
  · intro j h1 h2
    simp only [Array.size_extract] at h1 h2
    have h3 := rows_get hs (sp := sp) h (k + j) (by omega)
    rw [Array.getElem_extract, Array.getElem_extract]
    rw [Array.getElem?_eq_getElem (by omega), Array.getElem?_eq_getElem (by omega)] at h3
    have h4 := Option.some.inj h3
    rw [← h4]
    congr 1
    omega
end
end Go.X

namespace Go.X
open Go.Proofs
theorem hb_235 : hasBody Tryz.prog 235 = true := by kernel_rfl
theorem hb_236 : hasBody Tryz.prog 236 = true := by kernel_rfl
theorem po : Tryz.prog.follows .mixedOrders = true := by kernel_rfl
set_option maxRecDepth 100000 in
set_option maxHeartbeats 2000000 in
theorem C_isNaN_int64 {c : Cx} {L : List Pt} {a : Int} : Fn Tryz.prog 235 #[.int .i64 a] c L (fun v L' => v = .bool false ∧ L' = L) := by
  refine Fn.enter Tryz.func235 rfl 6 rfl rfl (fun R hR => ?_)
  refine Cd.seq (fun K1 hK1 => ?_)
  refine Cd.region [0] rfl ?_
  refine Seq.rd0 at0 rfl rfl (O.assign (v := .bool _) rfl) ?_
  refine Seq.nil ?_
  refine hK1 ?_
  refine Cd.seq (fun K2 hK2 => ?_)
  refine Cd.region [0, 1, 2, 3] rfl ?_
  refine Seq.rd0 at0 rfl rfl (O.move (v := .int .i64 _) rfl) ?_
  refine Seq.rd0 at1 rfl rfl (O.move (v := .int .i64 _) rfl) ?_
  refine Seq.rd0 at2 rfl rfl (O.neI rfl rfl) ?_
  refine Seq.rd0 at3 rfl rfl (O.assign (v := .bool _) rfl) ?_
  refine Seq.nil ?_
  refine hK2 ?_
  refine Cd.ret ?_
  exact hR _ _ (Res.one (v := .bool _) rfl rfl) ⟨by simp, rfl⟩ (.refl _)

set_option maxRecDepth 100000 in
set_option maxHeartbeats 2000000 in
theorem C_isNaN_uint8 {c : Cx} {L : List Pt} {a : Int} : Fn Tryz.prog 236 #[.int .u8 a] c L (fun v L' => v = .bool false ∧ L' = L) := by
  refine Fn.enter Tryz.func236 rfl 6 rfl rfl (fun R hR => ?_)
  refine Cd.seq (fun K1 hK1 => ?_)
  refine Cd.region [0] rfl ?_
  refine Seq.rd0 at0 rfl rfl (O.assign (v := .bool _) rfl) ?_
  refine Seq.nil ?_
  refine hK1 ?_
  refine Cd.seq (fun K2 hK2 => ?_)
  refine Cd.region [0, 1, 2, 3] rfl ?_
  refine Seq.rd0 at0 rfl rfl (O.move (v := .int .u8 _) rfl) ?_
  refine Seq.rd0 at1 rfl rfl (O.move (v := .int .u8 _) rfl) ?_
  refine Seq.rd0 at2 rfl rfl (O.neI rfl rfl) ?_
  refine Seq.rd0 at3 rfl rfl (O.assign (v := .bool _) rfl) ?_
  refine Seq.nil ?_
  refine hK2 ?_
  refine Cd.ret ?_
  exact hR _ _ (Res.one (v := .bool _) rfl rfl) ⟨by simp, rfl⟩ (.refl _)

set_option maxRecDepth 100000 in
set_option maxHeartbeats 2000000 in
theorem C_Compare_int64 {c : Cx} {L : List Pt} {a b : Int} : Fn Tryz.prog 196 #[.int .i64 a, .int .i64 b] c L (fun v L' => v = .int .i64 (cmpI a b) ∧ L' = L) := by
  refine Fn.enter Tryz.func196 rfl 20 rfl rfl (fun R hR => ?_)
  refine Cd.seq (fun K1 hK1 => ?_)
  refine Cd.region [0] rfl ?_
  refine Seq.rd0 at0 rfl rfl (O.assign (v := .int .i64 _) rfl) ?_
  refine Seq.nil ?_
  refine hK1 ?_
  refine Cd.seq (fun K2 hK2 => ?_)
  refine Cd.region [0, 1, 2] rfl ?_
  refine Seq.rd0 at0 rfl rfl (O.move (v := .int .i64 _) rfl) ?_
  refine Seq.op at1 rfl (Op.callF rfl hb_235 C_isNaN_int64 rfl ?_)
  rintro _ _ ⟨rfl, rfl⟩
  refine Seq.rd0 at2 rfl rfl (O.assign (v := .bool _) rfl) ?_
  refine Seq.nil ?_
  refine hK2 ?_
  refine Cd.seq (fun K3 hK3 => ?_)
  refine Cd.region [0, 1, 2] rfl ?_
  refine Seq.rd0 at0 rfl rfl (O.move (v := .int .i64 _) rfl) ?_
  refine Seq.op at1 rfl (Op.callF rfl hb_235 C_isNaN_int64 rfl ?_)
  rintro _ _ ⟨rfl, rfl⟩
  refine Seq.rd0 at2 rfl rfl (O.assign (v := .bool _) rfl) ?_
  refine Seq.nil ?_
  refine hK3 ?_
  refine Cd.seq (fun K4 hK4 => ?_)
  refine Cd.seq (fun K5 hK5 => ?_)
  refine Cd.region [0] rfl ?_
  refine Seq.rd0 at0 rfl rfl (O.move (v := .bool _) rfl) ?_
  refine Seq.nil ?_
  refine hK5 ?_
  refine Cd.condF rfl ?_
  refine Cd.skip ?_
  refine hK4 ?_
  refine Cd.seq (fun K6 hK6 => ?_)
  refine Cd.seq (fun K7 hK7 => ?_)
  refine Cd.region [0] rfl ?_
  refine Seq.rd0 at0 rfl rfl (O.move (v := .bool _) rfl) ?_
  refine Seq.nil ?_
  refine hK7 ?_
  refine Cd.condF rfl ?_
  refine Cd.skip ?_
  refine hK6 ?_
  refine Cd.seq (fun K8 hK8 => ?_)
  refine Cd.seq (fun K9 hK9 => ?_)
  refine Cd.region [0, 1, 2] rfl ?_
  refine Seq.rd0 at0 rfl rfl (O.move (v := .int .i64 _) rfl) ?_
  refine Seq.rd0 at1 rfl rfl (O.move (v := .int .i64 _) rfl) ?_
  refine Seq.rd0 at2 rfl rfl (O.lss rfl rfl) ?_
  refine Seq.nil ?_
  refine hK9 ?_
  refine Cd.if (a < b) rfl (fun t10 => ?_) (fun t10 => ?_)
  · skip
    refine Cd.seq (fun K11 hK11 => ?_)
    refine Cd.region [0] rfl ?_
    refine Seq.rd0 at0 rfl rfl (O.assign (v := .int .i64 _) rfl) ?_
    refine Seq.nil ?_
    refine hK11 ?_
    refine Cd.ret ?_
    exact hR _ _ (Res.one (v := .int .i64 _) rfl rfl) ⟨by simp [cmpI, *], rfl⟩ (.refl _)
  · skip
    refine Cd.skip ?_
    refine hK8 ?_
    refine Cd.seq (fun K12 hK12 => ?_)
    refine Cd.seq (fun K13 hK13 => ?_)
    refine Cd.region [0, 1, 2] rfl ?_
    refine Seq.rd0 at0 rfl rfl (O.move (v := .int .i64 _) rfl) ?_
    refine Seq.rd0 at1 rfl rfl (O.move (v := .int .i64 _) rfl) ?_
    refine Seq.rd0 at2 rfl rfl (O.gtr rfl rfl) ?_
    refine Seq.nil ?_
    refine hK13 ?_
    refine Cd.if (b < a) rfl (fun t14 => ?_) (fun t14 => ?_)
    · skip
      refine Cd.seq (fun K15 hK15 => ?_)
      refine Cd.region [0] rfl ?_
      refine Seq.rd0 at0 rfl rfl (O.assign (v := .int .i64 _) rfl) ?_
      refine Seq.nil ?_
      refine hK15 ?_
      refine Cd.ret ?_
      exact hR _ _ (Res.one (v := .int .i64 _) rfl rfl) ⟨by simp [cmpI, *], rfl⟩ (.refl _)
    · skip
      refine Cd.skip ?_
      refine hK12 ?_
      refine Cd.seq (fun K16 hK16 => ?_)
      refine Cd.region [0] rfl ?_
      refine Seq.rd0 at0 rfl rfl (O.assign (v := .int .i64 _) rfl) ?_
      refine Seq.nil ?_
      refine hK16 ?_
      refine Cd.ret ?_
      exact hR _ _ (Res.one (v := .int .i64 _) rfl rfl) ⟨by simp [cmpI, *], rfl⟩ (.refl _)

set_option maxRecDepth 100000 in
set_option maxHeartbeats 2000000 in
theorem C_Compare_uint8 {c : Cx} {L : List Pt} {a b : Int} : Fn Tryz.prog 197 #[.int .u8 a, .int .u8 b] c L (fun v L' => v = .int .i64 (cmpI a b) ∧ L' = L) := by
  refine Fn.enter Tryz.func197 rfl 20 rfl rfl (fun R hR => ?_)
  refine Cd.seq (fun K1 hK1 => ?_)
  refine Cd.region [0] rfl ?_
  refine Seq.rd0 at0 rfl rfl (O.assign (v := .int .i64 _) rfl) ?_
  refine Seq.nil ?_
  refine hK1 ?_
  refine Cd.seq (fun K2 hK2 => ?_)
  refine Cd.region [0, 1, 2] rfl ?_
  refine Seq.rd0 at0 rfl rfl (O.move (v := .int .u8 _) rfl) ?_
  refine Seq.op at1 rfl (Op.callF rfl hb_236 C_isNaN_uint8 rfl ?_)
  rintro _ _ ⟨rfl, rfl⟩
  refine Seq.rd0 at2 rfl rfl (O.assign (v := .bool _) rfl) ?_
  refine Seq.nil ?_
  refine hK2 ?_
  refine Cd.seq (fun K3 hK3 => ?_)
  refine Cd.region [0, 1, 2] rfl ?_
  refine Seq.rd0 at0 rfl rfl (O.move (v := .int .u8 _) rfl) ?_
  refine Seq.op at1 rfl (Op.callF rfl hb_236 C_isNaN_uint8 rfl ?_)
  rintro _ _ ⟨rfl, rfl⟩
  refine Seq.rd0 at2 rfl rfl (O.assign (v := .bool _) rfl) ?_
  refine Seq.nil ?_
  refine hK3 ?_
  refine Cd.seq (fun K4 hK4 => ?_)
  refine Cd.seq (fun K5 hK5 => ?_)
  refine Cd.region [0] rfl ?_
  refine Seq.rd0 at0 rfl rfl (O.move (v := .bool _) rfl) ?_
  refine Seq.nil ?_
  refine hK5 ?_
  refine Cd.condF rfl ?_
  refine Cd.skip ?_
  refine hK4 ?_
  refine Cd.seq (fun K6 hK6 => ?_)
  refine Cd.seq (fun K7 hK7 => ?_)
  refine Cd.region [0] rfl ?_
  refine Seq.rd0 at0 rfl rfl (O.move (v := .bool _) rfl) ?_
  refine Seq.nil ?_
  refine hK7 ?_
  refine Cd.condF rfl ?_
  refine Cd.skip ?_
  refine hK6 ?_
  refine Cd.seq (fun K8 hK8 => ?_)
  refine Cd.seq (fun K9 hK9 => ?_)
  refine Cd.region [0, 1, 2] rfl ?_
  refine Seq.rd0 at0 rfl rfl (O.move (v := .int .u8 _) rfl) ?_
  refine Seq.rd0 at1 rfl rfl (O.move (v := .int .u8 _) rfl) ?_
  refine Seq.rd0 at2 rfl rfl (O.lss rfl rfl) ?_
  refine Seq.nil ?_
  refine hK9 ?_
  refine Cd.if (a < b) rfl (fun t10 => ?_) (fun t10 => ?_)
  · skip
    refine Cd.seq (fun K11 hK11 => ?_)
    refine Cd.region [0] rfl ?_
    refine Seq.rd0 at0 rfl rfl (O.assign (v := .int .i64 _) rfl) ?_
    refine Seq.nil ?_
    refine hK11 ?_
    refine Cd.ret ?_
    exact hR _ _ (Res.one (v := .int .i64 _) rfl rfl) ⟨by simp [cmpI, *], rfl⟩ (.refl _)
  · skip
    refine Cd.skip ?_
    refine hK8 ?_
    refine Cd.seq (fun K12 hK12 => ?_)
    refine Cd.seq (fun K13 hK13 => ?_)
    refine Cd.region [0, 1, 2] rfl ?_
    refine Seq.rd0 at0 rfl rfl (O.move (v := .int .u8 _) rfl) ?_
    refine Seq.rd0 at1 rfl rfl (O.move (v := .int .u8 _) rfl) ?_
    refine Seq.rd0 at2 rfl rfl (O.gtr rfl rfl) ?_
    refine Seq.nil ?_
    refine hK13 ?_
    refine Cd.if (b < a) rfl (fun t14 => ?_) (fun t14 => ?_)
    · skip
      refine Cd.seq (fun K15 hK15 => ?_)
      refine Cd.region [0] rfl ?_
      refine Seq.rd0 at0 rfl rfl (O.assign (v := .int .i64 _) rfl) ?_
      refine Seq.nil ?_
      refine hK15 ?_
      refine Cd.ret ?_
      exact hR _ _ (Res.one (v := .int .i64 _) rfl rfl) ⟨by simp [cmpI, *], rfl⟩ (.refl _)
    · skip
      refine Cd.skip ?_
      refine hK12 ?_
      refine Cd.seq (fun K16 hK16 => ?_)
      refine Cd.region [0] rfl ?_
      refine Seq.rd0 at0 rfl rfl (O.assign (v := .int .i64 _) rfl) ?_
      refine Seq.nil ?_
      refine hK16 ?_
      refine Cd.ret ?_
      exact hR _ _ (Res.one (v := .int .i64 _) rfl rfl) ⟨by simp [cmpI, *], rfl⟩ (.refl _)

end Go.X

namespace Go.X
open Go.Proofs
theorem ds_34 : isDesc Tryz.prog 34 = 5 := by kernel_rfl
theorem fo_24_0 : fieldOff Tryz.prog 24 0 = some 0 := by kernel_rfl
theorem kd_2 : kindOf Tryz.prog 2 = some (false, 1) := by kernel_rfl
theorem kd_3 : kindOf Tryz.prog 3 = some (false, 1) := by kernel_rfl
theorem sl_34 : sliceOf Tryz.prog 34 = some (3, 1) := by kernel_rfl
set_option maxRecDepth 100000 in
set_option maxHeartbeats 2000000 in
theorem C_stamp_Good {c : Cx} {L : List Pt} {a : Stamp} : Fn Tryz.prog 98 #[.agg (Stamp_enc a)] c L (fun v L' => v = .bool (decide a.good) ∧ L' = L) := by
  refine Fn.enter Tryz.func98 rfl 11 rfl rfl (fun R hR => ?_)
  refine Cd.seq (fun K1 hK1 => ?_)
  refine Cd.region [0, 1] rfl ?_
  refine Seq.op at0 rfl (Op.new rfl (O.box (v := .agg _) rfl (cs := (Stamp_enc a)) rfl) ?_)
  intro b2 hb2
  refine Seq.rd0 at1 rfl rfl (O.assign (v := .bool _) rfl) ?_
  refine Seq.nil ?_
  refine hK1 ?_
  refine Cd.seq (fun K3 hK3 => ?_)
  refine Cd.region [0, 1, 2, 3, 4, 5, 6, 7, 8] rfl ?_
  refine Seq.rd0 at0 rfl rfl (O.field fo_24_0 rfl) ?_
  refine Seq.rd1 at1 rfl rfl (O.load kd_2 rfl (Stamp_t _)) Rd.head ?_
  refine Seq.rd0 at2 rfl rfl (O.geq rfl rfl) ?_
  refine Seq.rd0 at3 rfl rfl (O.move (v := .bool _) rfl) ?_
  by_cases t4 : (0 : Int) ≤ a.t
  · rw [decide_eq_true t4]
    refine Seq.rd0 at4 rfl rfl (O.field fo_24_0 rfl) ?_
    refine Seq.rd1 at5 rfl rfl (O.load kd_2 rfl (Stamp_t _)) Rd.head ?_
    refine Seq.rd0 at6 rfl rfl (O.leq rfl rfl) ?_
    refine Seq.rd0 at7 rfl rfl (O.pickT (v := .bool _) rfl rfl) ?_
    refine Seq.rd0 at8 rfl rfl (O.assign (v := .bool _) rfl) ?_
    refine Seq.nil ?_
    refine hK3 ?_
    refine Cd.ret ?_
    exact hR _ _ (Res.one (v := .bool _) rfl rfl) ⟨by simp [Stamp.good, *], rfl⟩ (.cons _ (.refl _))
  · rw [decide_eq_false t4]
    refine Seq.pass at4 rfl rfl ?_
    refine Seq.pass at5 rfl rfl ?_
    refine Seq.pass at6 rfl rfl ?_
    refine Seq.rd0 at7 rfl rfl (O.pickF (v := .bool _) rfl rfl) ?_
    refine Seq.rd0 at8 rfl rfl (O.assign (v := .bool _) rfl) ?_
    refine Seq.nil ?_
    refine hK3 ?_
    refine Cd.ret ?_
    exact hR _ _ (Res.one (v := .bool _) rfl rfl) ⟨by simp [Stamp.good, *], rfl⟩ (.cons _ (.refl _))

def intRow (xs : List Int) : Array Value := (xs.map (Value.int .i64)).toArray
theorem intRow_get {xs : List Int} {i : Nat} (h : i < xs.length) : (intRow xs)[0 + ((i : Nat) : Int).toNat * 1]? = some (.int .i64 (xs.getD i 0)) := by
  simp [intRow, h]
def orL : List Int → Int
  | [] => 0
  | x :: l => if x = 0 then orL l else x
theorem orL_hit : ∀ {xs : List Int} {i : Nat}, i < xs.length → (∀ j, j < i → xs.getD j 0 = 0) → xs.getD i 0 ≠ 0 → xs.getD i 0 = orL xs
  | x :: l, 0, _, _, h => by have : x ≠ 0 := by simpa using h
                             simp [orL, this]
  | x :: l, i + 1, hi, h0, h => by
    have hx : x = 0 := by simpa using h0 0 (by omega)
    have := orL_hit (xs := l) (i := i) (by simpa using hi) (fun j hj => by simpa using h0 (j + 1) (by omega)) (by simpa using h)
    simp only [orL, hx, if_true]
    simpa using this
theorem orL_miss : ∀ {xs : List Int}, (∀ j, j < xs.length → xs.getD j 0 = 0) → orL xs = 0
  | [], _ => rfl
  | x :: l, h => by
    have hx : x = 0 := by simpa using h 0 (by simp)
    simp only [orL, hx, if_true]
    exact orL_miss (fun j hj => by simpa using h (j + 1) (by simpa using hj))

set_option maxRecDepth 100000 in
set_option maxHeartbeats 2000000 in
theorem C_Or_int {c : Cx} {L : List Pt} {p : Nat} {xs : List Int} {el : TypeId} {fz : Nat × Nat} (hl : xs.length < 4611686018427387904) (hp : Rd c L p (.cells (intRow xs) el fz)) : Fn Tryz.prog 195 #[.slice (some ⟨p, 0, none⟩) xs.length xs.length] c L (fun v L' => v = .int .i64 (orL xs) ∧ L' = L) := by
  refine Fn.enter Tryz.func195 rfl 18 rfl rfl (fun R hR => ?_)
  refine Cd.seq (fun K1 hK1 => ?_)
  refine Cd.region [0] rfl ?_
  refine Seq.rd0 at0 rfl rfl (O.assign (v := .int .i64 _) rfl) ?_
  refine Seq.nil ?_
  refine hK1 ?_
  refine Cd.seq (fun K2 hK2 => ?_)
  refine Cd.region [0] rfl ?_
  refine Seq.rd0 at0 rfl rfl (O.assign (v := .int .i64 _) rfl) ?_
  refine Seq.nil ?_
  refine hK2 ?_
  refine Cd.seq (fun K3 hK3 => ?_)
  refine Cd.seq (fun K4 hK4 => ?_)
  refine Cd.region [0, 1, 2] rfl ?_
  refine Seq.rd0 at0 rfl rfl (O.move (v := .slice _ _ _) rfl) ?_
  refine Seq.rd0 at1 rfl rfl (O.lenS ds_34 rfl) ?_
  refine Seq.rd0 at2 rfl rfl (O.move (v := .int .i64 _) rfl) ?_
  refine Seq.nil ?_
  refine hK4 ?_
  refine Cd.block ?_
  refine Cd.loop (fun m5 e6 L7 => ∃ i : Nat, m5 = xs.length - i ∧ e6 3 = .int .i64 0 ∧ e6 6 = .slice (some ⟨p, 0, none⟩) xs.length xs.length ∧ e6 7 = .int .i64 (xs.length : Int) ∧ e6 8 = .int .i64 (i : Int) ∧ L7 = L ∧ i ≤ xs.length ∧ (∀ j, j < i → xs.getD j 0 = 0)) _ ⟨0, rfl, rfl, rfl, rfl, rfl, rfl, by omega, fun j hj => absurd hj (by omega)⟩ ?_
  rintro _ e6 _ ⟨i, rfl, s8, s9, s10, s11, rfl, hi, h0⟩ K12 hK12
  refine Cd.seq (fun K13 hK13 => ?_)
  refine Cd.region [0] rfl ?_
  refine Seq.rd0 at0 rfl rfl (O.lss (by exact s11) (by exact s10)) ?_
  refine Seq.nil ?_
  refine hK13 ?_
  refine Cd.seq (fun K14 hK14 => ?_)
  refine Cd.if ((i : Int) < (xs.length : Int)) rfl (fun t15 => ?_) (fun t15 => ?_)
  · skip
    refine Cd.skip ?_
    refine hK14 ?_
    refine Cd.seq (fun K16 hK16 => ?_)
    refine Cd.block ?_
    refine Cd.seq (fun K17 hK17 => ?_)
    refine Cd.region [0, 1, 2] rfl ?_
    refine Seq.rd0 at0 rfl rfl (O.index sl_34 (by exact s9) (by exact s11) (by omega) (by omega)) ?_
    refine Seq.rd1 at1 rfl rfl (O.load kd_3 rfl (intRow_get (by omega))) hp ?_
    refine Seq.rd0 at2 rfl rfl (O.assign (v := .int .i64 _) rfl) ?_
    refine Seq.nil ?_
    refine hK17 ?_
    refine Cd.seq (fun K18 hK18 => ?_)
    refine Cd.region [0, 1, 2] rfl ?_
    refine Seq.rd0 at0 rfl rfl (O.move (v := .int .i64 _) rfl) ?_
    refine Seq.rd0 at1 rfl rfl (O.move (v := .int .i64 _) (by exact s8)) ?_
    refine Seq.rd0 at2 rfl rfl (O.neI rfl rfl) ?_
    refine Seq.nil ?_
    refine hK18 ?_
    refine Cd.ifn ((xs.getD i 0) = 0) rfl (fun t19 => ?_) (fun t19 => ?_)
    · skip
      refine Cd.seq (fun K20 hK20 => ?_)
      refine Cd.region [0, 1] rfl ?_
      refine Seq.rd0 at0 rfl rfl (O.move (v := .int .i64 _) rfl) ?_
      refine Seq.rd0 at1 rfl rfl (O.assign (v := .int .i64 _) rfl) ?_
      refine Seq.nil ?_
      refine hK20 ?_
      refine Cd.ret ?_
      exact hR _ _ (Res.one (v := .int .i64 _) rfl rfl) ⟨by rw [orL_hit (by omega) h0 (by assumption)], rfl⟩ (.refl _)
    · skip
      refine Cd.skip ?_
      refine hK16 ?_
      refine Cd.region [0, 1] rfl ?_
      refine Seq.rd0 at0 rfl rfl (O.add (by exact s11) rfl (by omega) (by omega)) ?_
      refine Seq.rd0 at1 rfl rfl (O.move (v := .int .i64 _) rfl) ?_
      refine Seq.nil ?_
      exact hK12 _ (by omega) ⟨i + 1, rfl, (by exact s8), (by exact s9), (by exact s10), rfl, rfl, by omega, fun j hj => by rcases Nat.lt_or_ge j i with h | h; exact h0 j h; (have : j = i := by omega); subst this; assumption⟩
  · skip
    refine Cd.exit ?_
    refine hK3 ?_
    refine Cd.seq (fun K21 hK21 => ?_)
    refine Cd.region [0, 1] rfl ?_
    refine Seq.rd0 at0 rfl rfl (O.move (v := .int .i64 _) (by exact s8)) ?_
    refine Seq.rd0 at1 rfl rfl (O.assign (v := .int .i64 _) rfl) ?_
    refine Seq.nil ?_
    refine hK21 ?_
    refine Cd.ret ?_
    exact hR _ _ (Res.one (v := .int .i64 _) rfl rfl) ⟨by rw [orL_miss (fun j hj => h0 j (by omega))], rfl⟩ (.refl _)

end Go.X

namespace Go.X
open Go.Proofs
theorem ar_45 : arrayOf Tryz.prog 45 = some (16, 5, 1) := by kernel_rfl
theorem fo_24_1 : fieldOff Tryz.prog 24 1 = some 1 := by kernel_rfl
theorem fo_242_0 : fieldOff Tryz.prog 242 0 = some 0 := by kernel_rfl
theorem hb_132 : hasBody Tryz.prog 132 = true := by kernel_rfl
theorem hb_177 : hasBody Tryz.prog 177 = true := by kernel_rfl
theorem hb_195 : hasBody Tryz.prog 195 = true := by kernel_rfl
theorem hb_196 : hasBody Tryz.prog 196 = true := by kernel_rfl
theorem hb_197 : hasBody Tryz.prog 197 = true := by kernel_rfl
theorem kd_24 : kindOf Tryz.prog 24 = some (true, 2) := by kernel_rfl
theorem kd_5 : kindOf Tryz.prog 5 = some (false, 1) := by kernel_rfl
theorem orL_cmp (a b : Stamp) : orL [cmpI a.t b.t, cmpI a.n b.n] = a.cmp b := by
  unfold Stamp.cmp orL orL orL
  by_cases h : cmpI a.t b.t = 0
  · simp [h]; intro h2; exact h2.symm
  · simp [h]

set_option maxRecDepth 100000 in
set_option maxHeartbeats 2000000 in
theorem C_stamp_Cmp {c : Cx} {L : List Pt} {a b : Stamp} : Fn Tryz.prog 132 #[.agg (Stamp_enc a), .agg (Stamp_enc b)] c L (fun v L' => v = .int .i64 (a.cmp b) ∧ L' = L) := by
  refine Fn.enter Tryz.func132 rfl 17 rfl rfl (fun R hR => ?_)
  refine Cd.seq (fun K1 hK1 => ?_)
  refine Cd.region [0, 1, 2] rfl ?_
  refine Seq.op at0 rfl (Op.new rfl (O.box (v := .agg _) rfl (cs := (Stamp_enc a)) rfl) ?_)
  intro b2 hb2
  refine Seq.op at1 rfl (Op.new rfl (O.box (v := .agg _) rfl (cs := (Stamp_enc b)) rfl) ?_)
  intro b3 hb3
  refine Seq.rd0 at2 rfl rfl (O.assign (v := .int .i64 _) rfl) ?_
  refine Seq.nil ?_
  refine hK1 ?_
  refine Cd.seq (fun K4 hK4 => ?_)
  refine Cd.draw 13 rfl po ?_
  refine Any.rd0 0 at0 rfl rfl (O.field fo_24_0 rfl) (by kernel_rfl) (by kernel_rfl) (by kernel_rfl) ?_
  refine Any.rd1 1 at1 rfl rfl (O.load kd_2 rfl (Stamp_t _)) Rd.head.cons (by kernel_rfl) (by kernel_rfl) (by kernel_rfl) ?_
  refine Any.rd0 2 at2 rfl rfl (O.field fo_24_0 rfl) (by kernel_rfl) (by kernel_rfl) (by kernel_rfl) ?_
  refine Any.rd1 3 at3 rfl rfl (O.load kd_2 rfl (Stamp_t _)) Rd.head (by kernel_rfl) (by kernel_rfl) (by kernel_rfl) ?_
  refine Any.rd0 5 at5 rfl rfl (O.field fo_24_1 rfl) (by kernel_rfl) (by kernel_rfl) (by kernel_rfl) ?_
  refine Any.rd1 6 at6 rfl rfl (O.load kd_5 rfl (Stamp_n _)) Rd.head.cons (by kernel_rfl) (by kernel_rfl) (by kernel_rfl) ?_
  refine Any.rd0 7 at7 rfl rfl (O.field fo_24_1 rfl) (by kernel_rfl) (by kernel_rfl) (by kernel_rfl) ?_
  refine Any.rd1 8 at8 rfl rfl (O.load kd_5 rfl (Stamp_n _)) Rd.head (by kernel_rfl) (by kernel_rfl) (by kernel_rfl) ?_
  refine Any.one 4 at4 rfl (by kernel_rfl) ⟨⟨⟨⟨trivial, Rd.head.cons⟩, Rd.head⟩, Rd.head.cons⟩, Rd.head⟩ ?_
  refine Op.callF rfl hb_196 C_Compare_int64 rfl ?_
  rintro _ _ ⟨rfl, rfl⟩
  refine Any.toK ?_
  refine Any.one 9 at9 rfl (by kernel_rfl) ⟨⟨⟨⟨trivial, Rd.head.cons⟩, Rd.head⟩, Rd.head.cons⟩, Rd.head⟩ ?_
  refine Op.callF rfl hb_197 C_Compare_uint8 rfl ?_
  rintro _ _ ⟨rfl, rfl⟩
  refine Any.toK ?_
  refine Any.one 10 at10 rfl (by kernel_rfl) ⟨⟨⟨⟨trivial, Rd.head.cons⟩, Rd.head⟩, Rd.head.cons⟩, Rd.head⟩ ?_
  refine Op.new rfl (O.buildSlice (el := 3) rfl (cs := (intRow [(cmpI a.t b.t), (cmpI a.n b.n)])) (by kernel_rfl)) ?_
  intro b5 hb5
  refine Any.toK ?_
  refine Any.one 11 at11 rfl (by kernel_rfl) ⟨⟨⟨⟨trivial, Rd.head.cons.cons⟩, Rd.head.cons⟩, Rd.head.cons.cons⟩, Rd.head.cons⟩ ?_
  refine Op.callF rfl hb_195 (C_Or_int (by simp) Rd.head) rfl ?_
  rintro _ _ ⟨rfl, rfl⟩
  refine Any.toK ?_
  refine Any.rd0 12 at12 rfl rfl (O.assign (v := .int .i64 _) rfl) (by kernel_rfl) (by kernel_rfl) (by kernel_rfl) ?_
  refine Any.done (by kernel_rfl) ⟨⟨⟨⟨trivial, Rd.head.cons.cons⟩, Rd.head.cons⟩, Rd.head.cons.cons⟩, Rd.head.cons⟩ ?_
  refine hK4 ?_
  refine Cd.ret ?_
  exact hR _ _ (Res.one (v := .int .i64 _) rfl rfl) ⟨by rw [orL_cmp], rfl⟩ (.cons _ (.cons _ (.cons _ (.refl _))))

theorem X_compare {e : Env} {c : Cx} {L : List Pt} {x y : Operand} {d : Option Tmp} {ty : TypeId} {p : String} {af : Array Edge} {g : Option (Nat × Bool)} {tt : Array TypeId} {b1 b2 : Nat} {k1 k2 : Key} {t1 t2 : TypeId} {f1 f2 : Nat × Nat}
    (hx : [x, y].map (ev e) = [.slice (some ⟨b1, 0, none⟩) 16 16, .slice (some ⟨b2, 0, none⟩) 16 16]) (h1 : Rd c L b1 (.cells (Key_enc k1) t1 f1)) (h2 : Rd c L b2 (.cells (Key_enc k2) t2 f2)) :
    Eg Tryz.prog e ⟨d, .call { callee := .value (.func 227), args := #[x, y], argTypes := tt }, ty, p, af, g⟩ c L (fun v L' => v = .int .i64 (Key.cmp k1 k2) ∧ L' = L) := by
  intro w hw
  refine ⟨_, w, L, .inl (run_ext Tryz.func227 (by kernel_rfl) (by kernel_rfl) (by kernel_rfl) (r := Extern.BytealgCompare.compare) (by kernel_rfl) hx (v := .int .i64 (Key.cmp k1 k2)) ?_), ⟨rfl, rfl⟩, hw⟩
  have e1 := run_bytesOf (P := Tryz.prog) (o := 0) (cap := 16) (h1 w hw) k1.l (fun j x hj => by rw [Nat.zero_add]; exact Key_get hj)
  have e2 := run_bytesOf (P := Tryz.prog) (o := 0) (cap := 16) (h2 w hw) k2.l (fun j x hj => by rw [Nat.zero_add]; exact Key_get hj)
  rw [k1.h] at e1
  rw [k2.h] at e2
  change Sem.run Tryz.prog (do pure (goInt (Extern.BytealgCompare.cmp (← Extern.Bytes.bytesOf (.slice (some ⟨b1, 0, none⟩) 16 16)) (← Extern.Bytes.bytesOf (.slice (some ⟨b2, 0, none⟩) 16 16))))) w = _
  simp only [Sem.run_bind, e1, e2, Result.andThen_ok, Sem.run_pure, Lib.cmp_eq, goInt, Key.cmp]

set_option maxRecDepth 100000 in
set_option maxHeartbeats 2000000 in
theorem C_bytes_Compare {c : Cx} {L : List Pt} {b1 b2 : Nat} {k1 k2 : Key} {t1 t2 : TypeId} {f1 f2 : Nat × Nat} (h1 : Rd c L b1 (.cells (Key_enc k1) t1 f1)) (h2 : Rd c L b2 (.cells (Key_enc k2) t2 f2)) : Fn Tryz.prog 177 #[.slice (some ⟨b1, 0, none⟩) 16 16, .slice (some ⟨b2, 0, none⟩) 16 16] c L (fun v L' => v = .int .i64 (Key.cmp k1 k2) ∧ L' = L) := by
  refine Fn.enter Tryz.func177 rfl 8 rfl rfl (fun R hR => ?_)
  refine Cd.seq (fun K1 hK1 => ?_)
  refine Cd.region [0] rfl ?_
  refine Seq.rd0 at0 rfl rfl (O.assign (v := .int .i64 _) rfl) ?_
  refine Seq.nil ?_
  refine hK1 ?_
  refine Cd.seq (fun K2 hK2 => ?_)
  refine Cd.region [0, 1, 2, 3] rfl ?_
  refine Seq.rd0 at0 rfl rfl (O.move (v := .slice _ _ _) rfl) ?_
  refine Seq.rd0 at1 rfl rfl (O.move (v := .slice _ _ _) rfl) ?_
  refine Seq.op at2 rfl (Op.gen rfl (X_compare (by exact rfl) h1 h2) ?_)
  rintro _ _ ⟨rfl, rfl⟩
  refine Seq.rd0 at3 rfl rfl (O.assign (v := .int .i64 _) rfl) ?_
  refine Seq.nil ?_
  refine hK2 ?_
  refine Cd.ret ?_
  exact hR _ _ (Res.one (v := .int .i64 _) rfl rfl) ⟨rfl, rfl⟩ (.refl _)

set_option maxRecDepth 100000 in
set_option maxHeartbeats 2000000 in
theorem C_key_Cmp {c : Cx} {L : List Pt} {a b : Key} : Fn Tryz.prog 101 #[.agg (Key_enc a), .agg (Key_enc b)] c L (fun v L' => v = .int .i64 (a.cmp b) ∧ L' = L) := by
  refine Fn.enter Tryz.func101 rfl 8 rfl rfl (fun R hR => ?_)
  refine Cd.seq (fun K1 hK1 => ?_)
  refine Cd.region [0, 1, 2] rfl ?_
  refine Seq.op at0 rfl (Op.new rfl (O.box (v := .agg _) rfl (cs := (Key_enc a)) rfl) ?_)
  intro b2 hb2
  refine Seq.op at1 rfl (Op.new rfl (O.box (v := .agg _) rfl (cs := (Key_enc b)) rfl) ?_)
  intro b3 hb3
  refine Seq.rd0 at2 rfl rfl (O.assign (v := .int .i64 _) rfl) ?_
  refine Seq.nil ?_
  refine hK1 ?_
  refine Cd.seq (fun K4 hK4 => ?_)
  refine Cd.draw 4 rfl po ?_
  refine Any.rd0 0 at0 rfl rfl (O.sliceA ar_45 rfl) (by kernel_rfl) (by kernel_rfl) (by kernel_rfl) ?_
  refine Any.rd0 1 at1 rfl rfl (O.sliceA ar_45 rfl) (by kernel_rfl) (by kernel_rfl) (by kernel_rfl) ?_
  refine Any.one 2 at2 rfl (by kernel_rfl) trivial ?_
  refine Op.callF rfl hb_177 (C_bytes_Compare Rd.head.cons Rd.head) rfl ?_
  rintro _ _ ⟨rfl, rfl⟩
  refine Any.toK ?_
  refine Any.rd0 3 at3 rfl rfl (O.assign (v := .int .i64 _) rfl) (by kernel_rfl) (by kernel_rfl) (by kernel_rfl) ?_
  refine Any.done (by kernel_rfl) trivial ?_
  refine hK4 ?_
  refine Cd.ret ?_
  exact hR _ _ (Res.one (v := .int .i64 _) rfl rfl) ⟨rfl, rfl⟩ (.cons _ (.cons _ (.refl _)))

set_option maxRecDepth 100000 in
set_option maxHeartbeats 2000000 in
theorem C_place1 {c : Cx} {L : List Pt} {x : Version} {s : Stamp} : Fn Tryz.prog 248 #[.agg (Version_enc x), .agg (Stamp_enc s)] c L (fun v L' => v = .int .i64 (x.stamp.cmp s) ∧ L' = L) := by
  refine Fn.enter Tryz.func248 rfl 9 rfl rfl (fun R hR => ?_)
  refine Cd.seq (fun K1 hK1 => ?_)
  refine Cd.region [0, 1, 2] rfl ?_
  refine Seq.op at0 rfl (Op.new rfl (O.box (v := .agg _) rfl (cs := (Version_enc x)) rfl) ?_)
  intro b2 hb2
  refine Seq.op at1 rfl (Op.new rfl (O.box (v := .agg _) rfl (cs := (Stamp_enc s)) rfl) ?_)
  intro b3 hb3
  refine Seq.rd0 at2 rfl rfl (O.assign (v := .int .i64 _) rfl) ?_
  refine Seq.nil ?_
  refine hK1 ?_
  refine Cd.seq (fun K4 hK4 => ?_)
  refine Cd.region [0, 1, 2, 3, 4] rfl ?_
  refine Seq.rd0 at0 rfl rfl (O.field fo_242_0 rfl) ?_
  refine Seq.rd1 at1 rfl rfl (O.loadA kd_24 rfl (Nat.le_of_ble_eq_true rfl) (Version_stamp _)) Rd.head.cons ?_
  refine Seq.rd1 at2 rfl rfl (O.loadA kd_24 rfl (Nat.le_of_ble_eq_true rfl) (Stamp_all _)) Rd.head ?_
  refine Seq.op at3 rfl (Op.callF rfl hb_132 C_stamp_Cmp rfl ?_)
  rintro _ _ ⟨rfl, rfl⟩
  refine Seq.rd0 at4 rfl rfl (O.assign (v := .int .i64 _) rfl) ?_
  refine Seq.nil ?_
  refine hK4 ?_
  refine Cd.ret ?_
  exact hR _ _ (Res.one (v := .int .i64 _) rfl rfl) ⟨rfl, rfl⟩ (.cons _ (.cons _ (.refl _)))

end Go.X

/- Chains of versions, as plain lists. -/
namespace Go.X

def Stamp.lt (a b : Stamp) : Prop := a.t < b.t ∨ (a.t = b.t ∧ a.n < b.n)
theorem cmp_neg (a b : Stamp) : a.cmp b < 0 ↔ a.lt b := by
  unfold Stamp.cmp Stamp.lt cmpI
  by_cases h1 : a.t < b.t
  · simp [h1]
  · by_cases h2 : b.t < a.t
    · simp [h1, h2]; omega
    · have : a.t = b.t := by omega
      simp [this]
      by_cases h3 : a.n < b.n
      · simp [h3]
      · by_cases h4 : b.n < a.n <;> simp [h3, h4]
theorem cmp_pos (a b : Stamp) : 0 < a.cmp b ↔ b.lt a := by
  unfold Stamp.cmp Stamp.lt cmpI
  by_cases h1 : a.t < b.t
  · simp [h1]; omega
  · by_cases h2 : b.t < a.t
    · simp [h1, h2]
    · have : a.t = b.t := by omega
      simp [this]
      by_cases h3 : a.n < b.n
      · simp [h3]; omega
      · by_cases h4 : b.n < a.n <;> simp [h3, h4]
theorem cmp_zero (a b : Stamp) : a.cmp b = 0 ↔ a = b := by
  constructor
  · intro h
    have h1 : ¬ a.lt b := fun h2 => by have := (cmp_neg a b).2 h2; omega
    have h2 : ¬ b.lt a := fun h2 => by have := (cmp_pos a b).2 h2; omega
    unfold Stamp.lt at h1 h2
    cases a; cases b
    simp only [Stamp.mk.injEq] at *
    omega
  · rintro rfl
    unfold Stamp.cmp cmpI
    simp
theorem Stamp.lt_trans {a b c : Stamp} (h : a.lt b) (k : b.lt c) : a.lt c := by unfold Stamp.lt at *; omega
theorem Stamp.lt_irrefl (a : Stamp) : ¬ a.lt a := by unfold Stamp.lt; omega
theorem Stamp.lt_total (a b : Stamp) : a.lt b ∨ a = b ∨ b.lt a := by
  by_cases h : a.cmp b < 0
  · exact .inl ((cmp_neg a b).1 h)
  · by_cases h2 : 0 < a.cmp b
    · exact .inr (.inr ((cmp_pos a b).1 h2))
    · exact .inr (.inl ((cmp_zero a b).1 (by omega)))

/-- versions in the order of their stamps -/
def Sorted (vs : List Version) : Prop := vs.Pairwise (fun a b => a.stamp.lt b.stamp)
/-- how many versions are below a stamp -/
def below (vs : List Version) (s : Stamp) : Nat := (vs.takeWhile (fun v => decide (v.stamp.cmp s < 0))).length
def hasS (vs : List Version) (s : Stamp) : Bool := vs.any (fun v => decide (v.stamp = s))

theorem below_le (vs : List Version) (s : Stamp) : below vs s ≤ vs.length := by
  unfold below; exact (List.takeWhile_sublist _).length_le
theorem sorted_get {vs : List Version} (h : Sorted vs) {i j : Nat} (hij : i < j) (hj : j < vs.length) : (vs[i]'(by omega)).stamp.lt vs[j].stamp :=
  List.pairwise_iff_getElem.1 h i j (by omega) hj hij
/-- the place: what is ahead of it is below, what is from it on is not -/
theorem below_eq {vs : List Version} {s : Stamp} : ∀ {i : Nat} (hi : i ≤ vs.length) (_h1 : ∀ k (hk : k < i), (vs[k]'(by omega)).stamp.cmp s < 0)
    (_h2 : ∀ (h : i < vs.length), ¬ vs[i].stamp.cmp s < 0), below vs s = i := by
  induction vs with
  | nil => intro i hi _ _; simp at hi; subst hi; rfl
  | cons v vs ih =>
    intro i hi h1 h2
    cases i with
    | zero =>
      have := h2 (by simp)
      simp only [List.getElem_cons_zero] at this
      simp [below, List.takeWhile_cons, this]
    | succ i =>
      have h0 := h1 0 (by omega)
      simp only [List.getElem_cons_zero] at h0
      have := ih (i := i) (by simpa using hi) (fun k hk => by simpa using h1 (k + 1) (by omega)) (fun h => by have h3 := h2 (by simp only [List.length_cons]; omega); simpa only [List.getElem_cons_succ] using h3)
      unfold below at *
      simp [List.takeWhile_cons, h0, this]
theorem below_lt {vs : List Version} {s : Stamp} : ∀ {k : Nat} (_hk : k < below vs s) (h : k < vs.length), vs[k].stamp.lt s := by
  induction vs with
  | nil => intro k _ h; simp at h
  | cons v vs ih =>
    intro k hk h
    by_cases hv : v.stamp.cmp s < 0
    · cases k with
      | zero => exact (cmp_neg _ _).1 hv
      | succ k =>
        have : k < below vs s := by unfold below at *; simp [List.takeWhile_cons, hv] at hk; exact hk
        exact ih this (by simpa using h)
    · unfold below at hk; simp [List.takeWhile_cons, hv] at hk
theorem below_ge {vs : List Version} {s : Stamp} (hs : Sorted vs) : ∀ {k : Nat} (_hk : below vs s ≤ k) (h : k < vs.length), ¬ vs[k].stamp.lt s := by
  induction vs with
  | nil => intro k _ h; simp at h
  | cons v vs ih =>
    intro k hk h
    have hs2 : Sorted vs := (List.pairwise_cons.1 hs).2
    by_cases hv : v.stamp.cmp s < 0
    · cases k with
      | zero => unfold below at hk; simp [List.takeWhile_cons, hv] at hk
      | succ k =>
        have : below vs s ≤ k := by unfold below at *; simp [List.takeWhile_cons, hv] at hk; exact hk
        exact ih hs2 this (by simpa using h)
    · intro hlt
      cases k with
      | zero => exact hv ((cmp_neg _ _).2 hlt)
      | succ k =>
        have h3 := (List.pairwise_cons.1 hs).1 _ (List.getElem_mem (l := vs) (n := k) (by simpa using h))
        exact hv ((cmp_neg _ _).2 (Stamp.lt_trans h3 (by simpa using hlt)))
/-- found: the version at the place -/
theorem hasS_eq {vs : List Version} {s : Stamp} (hs : Sorted vs) : hasS vs s = (if h : below vs s < vs.length then decide (vs[below vs s].stamp = s) else false) := by
  rw [Bool.eq_iff_iff]
  constructor
  · intro h
    obtain ⟨v, hv, hvs⟩ := List.any_eq_true.1 h
    obtain ⟨k, hk, rfl⟩ := List.getElem_of_mem hv
    have hvs : vs[k].stamp = s := by simpa using hvs
    have hkb : k = below vs s := by
      rcases Nat.lt_trichotomy k (below vs s) with h1 | h1 | h1
      · exact absurd (hvs ▸ below_lt h1 hk) (Stamp.lt_irrefl _)
      · exact h1
      · have h2 := sorted_get hs h1 hk
        rw [hvs] at h2
        exact absurd h2 (below_ge hs (Nat.le_refl _) (by omega))
    subst hkb
    rw [dif_pos hk]; simpa using hvs
  · intro h
    split at h
    · rename_i hlt
      exact List.any_eq_true.2 ⟨_, List.getElem_mem hlt, h⟩
    · cases h
end Go.X

/- The engine, part 5: conversions, shifts, append, copy. -/
namespace Go.X
section
variable {P : Program} {n : Sz} {e : Env} {d : Option Tmp} {ty : TypeId} {p : String} {af : Array Edge} {g : Option (Nat × Bool)}
variable {c : Cx} {L : List Pt} {x y z : Operand} {v v' : Value}

def intOf? (P : Program) (t : TypeId) : Option IntKind :=
  match P.underlying t with
  | some (.int k) => some k
  | _ => none
theorem int_under {t : TypeId} {k : IntKind} (h : intOf? P t = some k) : P.underlying t = some (.int k) := by
  unfold intOf? at h; split at h
  · rename_i hu; rw [hu]; simpa using h
  · cases h
theorem wrap_id {k : IntKind} {a : Int} (h0 : 0 ≤ a) (h1 : a < 2 ^ (k.bits - 1)) : k.wrap a = a := by
  have hb : (2 : Int) ^ (k.bits - 1) ≤ 2 ^ k.bits := by cases k <;> decide
  have hm : a % 2 ^ k.bits = a := Int.emod_eq_of_lt h0 (by omega)
  unfold IntKind.wrap
  simp only [hm]
  split
  · rename_i h; simp at h; omega
  · rfl
/-- a conversion that changes nothing -/
theorem O.conv {s t : TypeId} {k k' : IntKind} {a : Int} (hs : intOf? P s = some k') (ht : intOf? P t = some k) (hx : ev e x = .int k' a) (h0 : 0 ≤ a) (h1 : a < 2 ^ (k.bits - 1)) :
    Rn0 P e ⟨d, .convert s t x, ty, p, af, g⟩ (.int k a) := fun w => by
  simp [execOp, hx, convert, run_under (int_under hs), run_under (int_under ht), Conv.intToInt, wrap_id h0 h1]
theorem O.shr1 {t t' : TypeId} {k k' : IntKind} {a : Int} (hx : ev e x = .int k a) (hy : ev e y = .int k' 1) : Rn0 P e ⟨d, .binOp .shr t x y t', ty, p, af, g⟩ (.int k (a / 2)) := fun w => by
  have hb : 1 ≤ k.bits := by cases k <;> decide
  have h := shift_shr k k' a 1 (by decide) (by exact_mod_cast hb)
  refine run_binop hx hy rfl ?_
  show (Op.shift .shr k a k' 1).run P w = _
  rw [h]
  rfl

/-! ## append -/
/-- a value of k elements of sz cells each, that can be read: its cells -/
def Src (c : Cx) (L : List Pt) (sz : Nat) (v : Value) (k : Nat) (cells : Array Value) : Prop :=
  (∃ (a : Option Addr) (cap : Nat), v = .slice a 0 cap ∧ k = 0 ∧ cells = #[]) ∨
  (∃ b o cap cs el fz, v = .slice (some ⟨b, o, none⟩) k cap ∧ Rd c L b (.cells cs el fz) ∧ o + k * sz ≤ cs.size ∧ cs.extract o (o + k * sz) = cells)
theorem Src.size {sz k : Nat} {cells : Array Value} (h : Src c L sz v k cells) : cells.size = k * sz := by
  rcases h with ⟨_, _, _, rfl, rfl⟩ | ⟨b, o, cap, cs, el, fz, _, _, h2, rfl⟩
  · simp
  · simp; omega
theorem Src.run {sz k : Nat} {cells : Array Value} (h : Src c L sz v k cells) {w : World} (hw : St c L w) : (Builtin.firstCells sz k v).run P w = .ok cells w := by
  rcases h with ⟨a, cap, rfl, rfl, rfl⟩ | ⟨b, o, cap, cs, el, fz, rfl, hr, h2, rfl⟩
  · cases a with
    | none => simp [Builtin.firstCells]
    | some a =>
      simp only [Builtin.firstCells, Nat.zero_mul]
      exact run_loadCells w _ 0 (fun _ => undef) (fun j hj => absurd hj (Nat.not_lt_zero j))
  · simp only [Builtin.firstCells]; exact run_loadRow (hr w hw) h2
theorem Src.len {sz k : Nat} {cells : Array Value} (h : Src c L sz v k cells) (w : World) : (Builtin.lenOf v).run P w = .ok k w := by
  rcases h with ⟨a, cap, rfl, rfl, rfl⟩ | ⟨b, o, cap, cs, el, fz, rfl, hr, h2, rfl⟩ <;> simp [Builtin.lenOf]
theorem Src.sub {sz k : Nat} {cells : Array Value} {L' : List Pt} (h : Src c L sz v k cells) (hs : L.Sublist L') : Src c L' sz v k cells := by
  rcases h with h | ⟨b, o, cap, cs, el, fz, h1, hr, h2⟩
  · exact .inl h
  · exact .inr ⟨b, o, cap, cs, el, fz, h1, hr.sub hs, h2⟩

theorem growBy_le (m : Nat) : ∀ (r c : Nat), c ≤ 2 * m + 192 → Builtin.growBy m r c ≤ 2 * m + 192
  | 0, c, h => h
  | r + 1, c, h => by
    simp only [Builtin.growBy]
    split
    · exact h
    · exact growBy_le m r _ (by omega)
theorem nextcap_le {m c : Nat} (h : c < m) : Builtin.nextslicecap m c ≤ 2 * m + 192 := by
  unfold Builtin.nextslicecap
  split
  · omega
  · split
    · omega
    · exact growBy_le m 4 c (by omega)

def elemInfo (P : Program) (t : TypeId) : Option (TypeId × Nat × Nat × Value) :=
  match P.underlying t with
  | some (.slice el) => match P.info? el with
    | some i => match i.zero with
      | some z => if z.cells.size = i.size then some (el, i.size, i.bytes, z) else none
      | none => none
    | none => none
  | _ => none
theorem elem_parts {t el sz by_ : Nat} {z : Value} (h : elemInfo P t = some (el, sz, by_, z)) :
    P.underlying t = some (.slice el) ∧ ∃ i, P.info? el = some i ∧ i.size = sz ∧ i.bytes = by_ ∧ i.zero = some z ∧ z.cells.size = sz := by
  unfold elemInfo at h
  split at h
  · rename_i el' hu
    split at h
    · rename_i i hi
      split at h
      · rename_i z' hz
        split at h
        · rename_i hs
          obtain ⟨rfl, rfl, rfl, rfl⟩ : el' = el ∧ i.size = sz ∧ i.bytes = by_ ∧ z' = z := by simpa using h
          exact ⟨hu, i, hi, rfl, rfl, hz, hs⟩
        · cases h
      · cases h
    · cases h
  · cases h

theorem zeroCells_size (z : Array Value) (m : Nat) : (Builtin.zeroCells z m).size = m * z.size := by simp [Builtin.zeroCells]

/-- 'append(s, x...)' where a new row is made -/
theorem O.appendGrow {t t2 el sz by_ m k cap : Nat} {z : Value} {a : Option Addr} {old new : Array Value} (ht : elemInfo P t = some (el, sz, by_, z)) (ht2 : isDesc P t2 = 5) (hby : by_ ≠ 0)
    (hx : ev e x = .slice a m cap) (hm : Src c L sz (.slice a m cap) m old) (hk : Src c L sz (ev e y) k new) (hgrow : cap < m + k) (hroom : (2 * (m + k) + 192) * by_ ≤ 281474976710656) :
    Eg P e ⟨d, .call { callee := .builtin .append, args := #[x, y], argTypes := #[t, t2] }, ty, p, af, g⟩ c L
      (fun v L' => ∃ b cap' sp, c.w0.heap.size ≤ b ∧ m + k ≤ cap' ∧ sp.size = (cap' - (m + k)) * sz ∧ v = .slice (some ⟨b, 0, none⟩) (m + k) cap' ∧ L' = (b, .cells (old ++ new ++ sp) el (0, 0)) :: L) := by
  intro w hw
  obtain ⟨hu, i, hi, rfl, rfl, hz, hzs⟩ := elem_parts ht
  obtain ⟨el2, hu2⟩ := desc_slice ht2
  have hcapn : ¬ (m + k ≤ cap) := by omega
  have hnext := nextcap_le hgrow
  have h48 : ¬ (Builtin.nextslicecap (m + k) cap * i.bytes > 2 ^ 48) := by
    have : Builtin.nextslicecap (m + k) cap * i.bytes ≤ (2 * (m + k) + 192) * i.bytes := Nat.mul_le_mul_right _ hnext
    have : (2 : Nat) ^ 48 = 281474976710656 := by decide
    omega
  let q : Question := .appendCap (m + k) cap el
  let cap' := q.cut (w.tape w.drawn q)
  have hcap' : m + k ≤ cap' := by show m + k ≤ m + k + _; omega
  let sp := Builtin.zeroCells z.cells (cap' - (m + k))
  have hw' : St c L w.drew := hw.drew _
  refine ⟨_, _, _, .inl ?_, ⟨w.heap.size, cap', sp, hw.mod.size, hcap', by rw [zeroCells_size, hzs], rfl, rfl⟩, hw'.new _⟩
  have hf1 := hm.run (P := P) hw'
  have hf2 := hk.run (P := P) hw'
  have hl := hk.len (P := P) w
  have hzz : zeroOf P el = some z := by simp [zeroOf, hi, hz]
  simp [execOp, resolve, invoke, builtin, Builtin.append_, hx, run_under hu, run_under hu2, run_size hi, run_info hi, hl, hcapn, hby, h48, Question.forced, run_zero hzz, hf1, hf2, newRow, q, cap', sp]
end
end Go.X
