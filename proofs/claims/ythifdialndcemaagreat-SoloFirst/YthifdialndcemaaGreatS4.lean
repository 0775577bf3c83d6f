/- Part 4 of the proofs over this program: what its functions compute. -/
import Derived.Test.YthifdialndcemaaGreatProg
import Derived.Test.YthifdialndcemaaGreatS3
set_option linter.unusedVariables false
set_option linter.unusedSimpArgs false

namespace Go.X
open Go.Proofs
theorem hb_87 : hasBody Tryz.prog 87 = true := by kernel_rfl
set_option maxRecDepth 100000 in
set_option maxHeartbeats 2000000 in
theorem C_store_New {c : Cx} {L : List Pt}  : Fn Tryz.prog 87 #[] c L (fun v L' => ∃ sb mb, c.w0.heap.size ≤ sb ∧ c.w0.heap.size ≤ mb ∧ v = .pointer (some ⟨sb, 0, none⟩) ∧ L' = (sb, .cells #[.map (some mb)] 245 (0, 0)) :: (mb, .map #[] 0) :: L) := by
  refine Fn.enter Tryz.func87 rfl 4 rfl rfl (fun R hR => ?_)
  refine Cd.seq (fun K1 hK1 => ?_)
  refine Cd.region [0] rfl ?_
  refine Seq.rd0 at0 rfl rfl (O.assign (v := .pointer _) rfl) ?_
  refine Seq.nil ?_
  refine hK1 ?_
  refine Cd.seq (fun K2 hK2 => ?_)
  refine Cd.region [0, 1, 2, 3] rfl ?_
  refine Seq.op at0 rfl (Op.new rfl (O.makeMap) ?_)
  intro b3 hb3
  refine Seq.rd0 at1 rfl rfl (O.build rfl (cs := #[.map (some b3)]) (by kernel_rfl)) ?_
  refine Seq.op at2 rfl (Op.new rfl (O.box (v := .agg _) rfl (cs := #[.map (some b3)]) rfl) ?_)
  intro b4 hb4
  refine Seq.rd0 at3 rfl rfl (O.assign (v := .pointer _) rfl) ?_
  refine Seq.nil ?_
  refine hK2 ?_
  refine Cd.ret ?_
  exact hR _ _ (Res.one (v := .pointer _) rfl rfl) ⟨b4, b3, hb4, hb3, rfl, rfl⟩ (.refl _)

end Go.X

/- The engine, part 16: stores into rows; clear. -/
namespace Go.X
section
variable {P : Program} {n : Sz} {e : Env} {d : Option Tmp} {ty : TypeId} {p : String} {af : Array Edge} {g : Option (Nat × Bool)}
variable {c : Cx} {L : List Pt} {x y z : Operand} {v v' : Value}
variable {α : Type} {enc : α → Array Value} {sz : Nat}
/-- 'clear' of a row's end -/
theorem O.clear {t el sz' by_ b o m cap : Nat} {zv : Value} {cs cs' : Array Value} {el' : TypeId} (ht : elemInfo P t = some (el, sz', by_, zv)) (hx : ev e x = .slice (some ⟨b, o, none⟩) m cap)
    (hone : ∀ u ∈ zv.cells.toList, Value.oneCell' u = true) (hroom : o + m * sz' ≤ cs.size) (hcs : m ≠ 0 → putL cs o (Builtin.zeroCells zv.cells m).toList = cs') (h0 : m = 0 → cs' = cs) :
    Eg P e ⟨d, .call { callee := .builtin .clear, args := #[x], argTypes := #[t] }, ty, p, af, g⟩ c ((b, .cells cs el' (0, 0)) :: L)
      (fun v L' => v = .tuple #[] ∧ L' = (b, .cells cs' el' (0, 0)) :: L) := by
  intro w hw
  obtain ⟨hu, i, hi, rfl, rfl, hz, hzs⟩ := elem_parts ht
  have hzz : zeroOf P el = some zv := by simp [zeroOf, hi, hz]
  cases m with
  | zero =>
    obtain rfl := h0 rfl
    refine ⟨_, w, _, .inl ?_, ⟨rfl, rfl⟩, hw⟩
    simp [execOp, resolve, invoke, builtin, Builtin.clear_, hx, run_under hu]
  | succ m =>
    have hsz : (Builtin.zeroCells zv.cells (m + 1)).size = (m + 1) * i.size := by rw [zeroCells_size, hzs]
    have hst := run_storeL (P := P) (el := el') (Builtin.zeroCells zv.cells (m + 1)).toList w o 0 cs (hw.look _ (List.mem_cons_self)) (by rw [Array.length_toList, hsz]; omega) (by
      intro u hu2
      simp only [Builtin.zeroCells, Array.toList_map, List.mem_map] at hu2
      obtain ⟨j, hj, rfl⟩ := hu2
      have hj2 : j < (m + 1) * zv.cells.size := by simpa using hj
      have hpos : 0 < zv.cells.size := by
        rcases Nat.eq_zero_or_pos zv.cells.size with h | h
        · rw [h] at hj2; simp at hj2
        · exact h
      have hlt := Nat.mod_lt j hpos
      rw [getElem!_pos zv.cells _ hlt]
      exact hone _ (by simp))
    have hcs2 : putL cs (o + 0) (Builtin.zeroCells zv.cells (m + 1)).toList = cs' := hcs (by omega)
    rw [hcs2] at hst
    refine ⟨_, _, _, .inl ?_, ⟨rfl, rfl⟩, St.set (A := []) hw⟩
    simp [execOp, resolve, invoke, builtin, Builtin.clear_, hx, run_under hu, run_zero hzz, hst]
end
end Go.X

namespace Go.X
open Go.Proofs

theorem run_eqStamp (x y : Stamp) (w : World) : (Op.equal 24 (.agg (Stamp_enc x)) (.agg (Stamp_enc y))).run Tryz.prog w = .ok (decide (x = y)) w := by
  have uT : Tryz.prog.underlying 2 = some (.int .i64) := by kernel_rfl
  have uN : Tryz.prog.underlying 5 = some (.int .u8) := by kernel_rfl
  have aT : ∀ w, (isAgg 2).run Tryz.prog w = .ok false w := fun w => by kernel_rfl
  have aN : ∀ w, (isAgg 5).run Tryz.prog w = .ok false w := fun w => by kernel_rfl
  have zT : ∀ w, (Go.sizeOf 2).run Tryz.prog w = .ok 1 w := fun w => by kernel_rfl
  have zN : ∀ w, (Go.sizeOf 5).run Tryz.prog w = .ok 1 w := fun w => by kernel_rfl
  have hS : Tryz.prog.underlying 24 = some (.struct (Tryz.prog.fieldsOf 24)) := by kernel_rfl
  have hp : Tryz.prog.stoodInHeld 24 = false := by kernel_rfl
  have hdec : decide (x = y) = (x.t == y.t && x.n == y.n) := by
    cases x; cases y; rw [Bool.eq_iff_iff]; simp [Stamp.mk.injEq]
  rw [hdec]
  show (Op.equalIn 10000 24 (.agg (Stamp_enc x)) (.agg (Stamp_enc y))).run Tryz.prog w = _
  simp only [Stamp_enc]
  rw [show (10000 : Nat) = 9999 + 1 from rfl, run_equalIn_agg w 9999 24 _ _ hS hp]
  simp only [Program.fieldsOf, Tryz.underlying24]
  go_simp
  by_cases h1 : x.t = y.t <;> by_cases h2 : x.n = y.n <;> simp [h1, h2]

section
variable {e : Env} {d : Option Tmp} {ty : TypeId} {p : String} {af : Array Edge} {g : Option (Nat × Bool)} {x y : Operand} {t' : TypeId} {a b : Stamp}
theorem eqStamp (hx : ev e x = .agg (Stamp_enc a)) (hy : ev e y = .agg (Stamp_enc b)) : Rn0 Tryz.prog e ⟨d, .binOp .eql 24 x y t', ty, p, af, g⟩ (.bool (decide (a = b))) := fun w =>
  run_binop hx hy (by simp [eqGuard, (by kernel_rfl : Tryz.prog.eqGuardType Tryz.prog.depth 24 = false)]) (run_eql rfl (run_eqStamp a b w))
end
/-- why may a transaction not be committed? -/
def usedS (l : List (Key × CV)) (s : Stamp) (x : Write) : Bool := (getS l x.key).any fun v => decide (v.stamp = s)
def canCommitP (l : List (Key × CV)) (ol : List (I64 × Int)) (el : List (I64 × EV)) (ti : I64) (s : Stamp) : Int :=
  if s.good then (if stateP ol el ti = 0 then 4 else if stateP ol el ti = 3 then 10 else if stateP ol el ti = 2 then 0 else
    if s.cmp (entT el ti).1.stamp < 0 then 1 else if (entT el ti).2.any (usedS l s) then 5 else 0) else 1
theorem takeA_next {α : Type} {ws : List α} {p : α → Bool} {i : Nat} (hi : i < ws.length) (h : ∀ w ∈ ws.take i, p w = false) (hp : p ws[i] = false) : ∀ w ∈ ws.take (i + 1), p w = false := by
  intro w hw
  rw [List.take_add_one, List.getElem?_eq_getElem hi] at hw
  simp only [Option.toList_some, List.mem_append, List.mem_singleton] at hw
  rcases hw with hw | rfl
  · exact h w hw
  · exact hp
theorem anyA_none {α : Type} {ws : List α} {p : α → Bool} {i : Nat} (hi : i = ws.length) (h : ∀ w ∈ ws.take i, p w = false) : ws.any p = false := by
  subst hi; rw [List.take_length] at h; rw [List.any_eq_false]; intro x hx; rw [h x hx]; decide
theorem anyA_some {α : Type} {ws : List α} {p : α → Bool} {i : Nat} (hi : i < ws.length) (h : p ws[i] = true) : ws.any p = true := List.any_eq_true.2 ⟨_, List.getElem_mem hi, h⟩

end Go.X

namespace Go.X
open Go.Proofs
section
variable {l : List (Key × CV)} {ol : List (I64 × Int)} {el : List (I64 × EV)} {ti : I64} {s : Stamp}
end

end Go.X

namespace Go.X
open Go.Proofs
theorem ds_243 : isDesc Tryz.prog 243 = 6 := by kernel_rfl
theorem hb_205 : hasBody Tryz.prog 205 = true := by kernel_rfl
theorem O.lookP {P : Program} {e : Env} {d : Option Tmp} {ty : TypeId} {p : String} {af : Array Edge} {g : Option (Nat × Bool)} {x y : Operand} {t k el b : Nat} {es : Array MapEntry} {ck : Nat} {l : List (Key × CV)} {a : Key}
    (ht : P.underlying t = some (.map k el)) (KK : IsKey P k keyV) (h : MapIs keyV cvV es ck l) (hz : zeroOf P el = some (.pointer none)) (hx : ev e x = .map (some b)) (hy : ev e y = keyV a) :
    Rn1 P e ⟨d, .lookup t x y false, ty, p, af, g⟩ b (.map es ck) (.pointer ((alook l a).map fun q => ⟨q.1, 0, none⟩)) := by
  cases hl : alook l a with
  | some u => exact O.lookS (encV := cvV) (ok := false) ht KK h hx hy hl
  | none => exact O.lookN (encV := cvV) (ok := false) ht KK h hz hx hy hl
/-- how many of the first i writes are of keys that a store has not -/
def newN (l : List (Key × CV)) (ws : List Write) (i : Nat) : Nat := ((ws.take i).filter fun w => ((alook l w.key).map fun q => (⟨q.1, 0, none⟩ : Addr)).isNone).length
def fullS (l : List (Key × CV)) (w : Write) : Bool := decide ((50 : Int) ≤ ((getS l w.key).length : Nat))
def roomS (l : List (Key × CV)) (ws : List Write) : Bool := if ws.any (fullS l) then false else decide (l.length + newN l ws ws.length ≤ 200)
theorem newN_le {l : List (Key × CV)} {ws : List Write} {i : Nat} : newN l ws i ≤ i := Nat.le_trans (List.length_filter_le _ _) (by rw [List.length_take]; omega)
theorem newN_step {l : List (Key × CV)} {ws : List Write} {i : Nat} (hi : i < ws.length) : newN l ws (i + 1) = newN l ws i + (if ((alook l ws[i].key).map fun q => (⟨q.1, 0, none⟩ : Addr)).isNone then 1 else 0) := by
  unfold newN
  rw [List.take_add_one, List.getElem?_eq_getElem hi, Option.toList_some, List.filter_append, List.length_append]
  congr 1
  rw [List.filter_cons]
  split <;> rfl

set_option maxRecDepth 100000 in
set_option maxHeartbeats 2000000 in
theorem C_store_room {c : Cx} {L : List Pt} {sb : Nat} {l : List (Key × CV)} (hS : StAt c L sb l) {av : Option Addr} {nw cw : Nat} {ws : List Write} (hW : SlAt c L Write_enc av nw ws) : Fn Tryz.prog 172 #[.pointer (some ⟨sb, 0, none⟩), .slice av nw cw] c L (fun v L' => v = .bool (roomS l ws) ∧ L' = L) := by
  have hSz := hS.size
  obtain ⟨⟨mb, es, ck, hsb, hmb, hm⟩, hch, _⟩ := id hS
  have hwl := hW.len
  have hwt := hW.lt
  have hms := hm.size
  refine Fn.enter Tryz.func172 rfl 38 rfl rfl (fun R hR => ?_)
  refine Cd.seq (fun K1 hK1 => ?_)
  refine Cd.region [0] rfl ?_
  refine Seq.rd0 at0 rfl rfl (O.assign (v := .bool _) rfl) ?_
  refine Seq.nil ?_
  refine hK1 ?_
  refine Cd.seq (fun K2 hK2 => ?_)
  refine Cd.region [0, 1, 2, 3, 4, 5] rfl ?_
  refine Seq.rd0 at0 rfl rfl (O.move (v := .pointer _) rfl) ?_
  refine Seq.rd0 at1 rfl rfl (O.nilP rfl) ?_
  refine Seq.rd0 at2 rfl rfl (O.field fo_245_0 rfl) ?_
  refine Seq.rd1 at3 rfl rfl (O.load kd_243 rfl r1_0) hsb ?_
  refine Seq.rd1 at4 rfl rfl (O.lenM ds_243 rfl) hmb ?_
  refine Seq.rd0 at5 rfl rfl (O.assign (v := .int .i64 _) rfl) ?_
  refine Seq.nil ?_
  refine hK2 ?_
  refine Cd.seq (fun K3 hK3 => ?_)
  refine Cd.seq (fun K4 hK4 => ?_)
  refine Cd.region [0, 1, 2] rfl ?_
  refine Seq.rd0 at0 rfl rfl (O.move (v := .slice _ _ _) rfl) ?_
  refine Seq.rd0 at1 rfl rfl (O.lenS ds_25 rfl) ?_
  refine Seq.rd0 at2 rfl rfl (O.move (v := .int .i64 _) rfl) ?_
  refine Seq.nil ?_
  refine hK4 ?_
  refine Cd.block ?_
  refine Cd.loop (fun m5 e6 L7 => ∃ i : Nat, ∃ nv : Int, m5 = ws.length - i ∧ e6 0 = .pointer (some ⟨sb, 0, none⟩) ∧ e6 5 = .int .i64 nv ∧ e6 13 = .slice av nw cw ∧ e6 14 = .int .i64 (nw : Int) ∧ e6 15 = .int .i64 (i : Int) ∧ L7 = L ∧ nv = ((l.length + newN l ws i : Nat) : Int) ∧ i ≤ ws.length ∧ (∀ x ∈ ws.take i, fullS l x = false)) _ ⟨0, (es.size : Int), rfl, rfl, rfl, rfl, rfl, rfl, rfl, by rw [hms]; rfl, Nat.zero_le _, fun w hw => by simp at hw⟩ ?_
  rintro _ e6 _ ⟨i, nv, rfl, s8, s9, s10, s11, s12, rfl, hnv, hi, hz⟩ K13 hK13
  have hnl := newN_le (l := l) (ws := ws) (i := i)
  refine Cd.seq (fun K14 hK14 => ?_)
  refine Cd.region [0] rfl ?_
  refine Seq.rd0 at0 rfl rfl (O.lss (by exact s12) (by exact s11)) ?_
  refine Seq.nil ?_
  refine hK14 ?_
  refine Cd.seq (fun K15 hK15 => ?_)
  refine Cd.if ((i : Int) < (nw : Int)) rfl (fun t16 => ?_) (fun t16 => ?_)
  · skip
    refine Cd.skip ?_
    refine hK15 ?_
    refine Cd.seq (fun K17 hK17 => ?_)
    refine Cd.block ?_
    refine Cd.seq (fun K18 hK18 => ?_)
    refine Cd.region [0, 1, 2, 3] rfl ?_
    have hlt19 : i < ws.length := by omega
    obtain ⟨pre19, sp19, el19, fz19, hav19, hrd19⟩ := hW.at_ hlt19
    refine Seq.rd0 at0 rfl rfl (O.indexG sl_25 (by exact s10) hav19 (by exact s12) (by omega) (by omega)) ?_
    refine Seq.rd1 at1 rfl rfl (O.loadA kd_47 rfl (rowRoomP Write_size (getN hlt19)) (rowAtP Write_size (getN hlt19))) hrd19 ?_
    refine Seq.op at2 rfl (Op.new rfl (O.alloc zo_47 (cs := (Write_enc Write.zero)) rfl) ?_)
    intro b20 hb20
    refine Seq.op at3 rfl (Op.set0 rfl (O.store kd_47 rfl (v := .agg _) rfl (Write_size _) (Write_room (Write_size _)) (Write_one _) (Write_put _ (Write_size _))) ?_)
    refine Seq.nil ?_
    refine hK18 ?_
    refine Cd.seq (fun K21 hK21 => ?_)
    refine Cd.seq (fun K22 hK22 => ?_)
    refine Cd.draw 8 rfl po ?_
    refine Any.rd0 0 at0 rfl rfl (O.move (v := .pointer _) (by exact s8)) (by kernel_rfl) (by kernel_rfl) (by kernel_rfl) ?_
    refine Any.rd0 1 at1 rfl rfl (O.nilP rfl) (by kernel_rfl) (by kernel_rfl) (by kernel_rfl) ?_
    refine Any.rd0 2 at2 rfl rfl (O.field fo_245_0 rfl) (by kernel_rfl) (by kernel_rfl) (by kernel_rfl) ?_
    refine Any.rd1 3 at3 rfl rfl (O.load kd_243 rfl r1_0) hsb.cons (by kernel_rfl) (by kernel_rfl) (by kernel_rfl) ?_
    refine Any.rd0 4 at4 rfl rfl (O.field fo_47_0 rfl) (by kernel_rfl) (by kernel_rfl) (by kernel_rfl) ?_
    refine Any.rd1 5 at5 rfl rfl (O.loadA kd_45 rfl (Nat.le_of_ble_eq_true rfl) (Write_key _)) Rd.head (by kernel_rfl) (by kernel_rfl) (by kernel_rfl) ?_
    refine Any.rd1 6 at6 rfl rfl (O.lookP mp_243 kk_key hm zo_251 rfl (by exact rfl)) hmb.cons (by kernel_rfl) (by kernel_rfl) (by kernel_rfl) ?_
    refine Any.rd0 7 at7 rfl rfl (O.eqNil ds_251 rfl rfl) (by kernel_rfl) (by kernel_rfl) (by kernel_rfl) ?_
    refine Any.done (by kernel_rfl) ⟨⟨⟨trivial, hsb.cons⟩, Rd.head⟩, hmb.cons⟩ ?_
    refine hK22 ?_
    refine Cd.cond (((alook l ws[i].key).map fun q => (⟨q.1, 0, none⟩ : Addr)).isNone) rfl (fun t23 => ?_) (fun t23 => ?_)
    · skip
      refine Cd.region [0, 1, 2] rfl ?_
      refine Seq.rd0 at0 rfl rfl (O.move (v := .int .i64 _) (by exact s9)) ?_
      refine Seq.rd0 at1 rfl rfl (O.add rfl rfl (by omega) (by omega)) ?_
      refine Seq.rd0 at2 rfl rfl (O.assign (v := .int .i64 _) rfl) ?_
      refine Seq.nil ?_
      refine hK21 ?_
      refine Cd.seq (fun K24 hK24 => ?_)
      refine Cd.region [0, 1, 2, 3, 4, 5] rfl ?_
      refine Seq.rd0 at0 rfl rfl (O.move (v := .pointer _) (by exact s8)) ?_
      refine Seq.rd0 at1 rfl rfl (O.field fo_47_0 rfl) ?_
      refine Seq.rd1 at2 rfl rfl (O.loadA kd_45 rfl (Nat.le_of_ble_eq_true rfl) (Write_key _)) Rd.head ?_
      refine Seq.op at3 rfl (Op.callF rfl hb_170 (C_of (k := ws[i].key) hS.cons) rfl ?_)
      rintro _ _ ⟨cb25, G26, rfl, rfl, hc27, hc27s, hc27n⟩
      refine Seq.op at4 rfl (Op.callF rfl hb_205 (C_chain_Len hc27n hc27) rfl ?_)
      rintro _ _ ⟨rfl, rfl⟩
      refine Ent.sub ?_ (sub_app (.refl _))
      refine Seq.rd0 at5 rfl rfl (O.geq rfl rfl) ?_
      refine Seq.nil ?_
      refine hK24 ?_
      refine Cd.if ((50 : Int) ≤ (((getS l ws[i].key).length : Nat) : Int)) rfl (fun t28 => ?_) (fun t28 => ?_)
      · skip
        refine Cd.seq (fun K29 hK29 => ?_)
        refine Cd.region [0] rfl ?_
        refine Seq.rd0 at0 rfl rfl (O.assign (v := .bool _) rfl) ?_
        refine Seq.nil ?_
        refine hK29 ?_
        refine Cd.ret ?_
        exact hR _ _ (Res.one (v := .bool _) rfl rfl) ⟨congrArg Value.bool (Eq.symm (by unfold roomS; rw [if_pos (anyA_some (p := fullS l) hlt19 (decide_eq_true (by assumption)))])), rfl⟩ (.cons _ (.refl _))
      · skip
        refine Cd.skip ?_
        refine hK17 ?_
        refine Cd.region [0, 1] rfl ?_
        refine Seq.rd0 at0 rfl rfl (O.add (by exact s12) rfl (by omega) (by omega)) ?_
        refine Seq.rd0 at1 rfl rfl (O.move (v := .int .i64 _) rfl) ?_
        refine Seq.nil ?_
        refine Ent.drop ?_
        exact hK13 _ (by omega) ⟨i + 1, (nv + 1), rfl, (by exact s8), rfl, (by exact s10), (by exact s11), rfl, rfl, by rw [newN_step hlt19, if_pos (by assumption)]; omega, by omega, takeA_next hlt19 hz (decide_eq_false (by assumption))⟩
    · skip
      refine Cd.skip ?_
      refine hK21 ?_
      refine Cd.seq (fun K30 hK30 => ?_)
      refine Cd.region [0, 1, 2, 3, 4, 5] rfl ?_
      refine Seq.rd0 at0 rfl rfl (O.move (v := .pointer _) (by exact s8)) ?_
      refine Seq.rd0 at1 rfl rfl (O.field fo_47_0 rfl) ?_
      refine Seq.rd1 at2 rfl rfl (O.loadA kd_45 rfl (Nat.le_of_ble_eq_true rfl) (Write_key _)) Rd.head ?_
      refine Seq.op at3 rfl (Op.callF rfl hb_170 (C_of (k := ws[i].key) hS.cons) rfl ?_)
      rintro _ _ ⟨cb31, G32, rfl, rfl, hc33, hc33s, hc33n⟩
      refine Seq.op at4 rfl (Op.callF rfl hb_205 (C_chain_Len hc33n hc33) rfl ?_)
      rintro _ _ ⟨rfl, rfl⟩
      refine Ent.sub ?_ (sub_app (.refl _))
      refine Seq.rd0 at5 rfl rfl (O.geq rfl rfl) ?_
      refine Seq.nil ?_
      refine hK30 ?_
      refine Cd.if ((50 : Int) ≤ (((getS l ws[i].key).length : Nat) : Int)) rfl (fun t34 => ?_) (fun t34 => ?_)
      · skip
        refine Cd.seq (fun K35 hK35 => ?_)
        refine Cd.region [0] rfl ?_
        refine Seq.rd0 at0 rfl rfl (O.assign (v := .bool _) rfl) ?_
        refine Seq.nil ?_
        refine hK35 ?_
        refine Cd.ret ?_
        exact hR _ _ (Res.one (v := .bool _) rfl rfl) ⟨congrArg Value.bool (Eq.symm (by unfold roomS; rw [if_pos (anyA_some (p := fullS l) hlt19 (decide_eq_true (by assumption)))])), rfl⟩ (.cons _ (.refl _))
      · skip
        refine Cd.skip ?_
        refine hK17 ?_
        refine Cd.region [0, 1] rfl ?_
        refine Seq.rd0 at0 rfl rfl (O.add (by exact s12) rfl (by omega) (by omega)) ?_
        refine Seq.rd0 at1 rfl rfl (O.move (v := .int .i64 _) rfl) ?_
        refine Seq.nil ?_
        refine Ent.drop ?_
        exact hK13 _ (by omega) ⟨i + 1, nv, rfl, (by exact s8), (by exact s9), (by exact s10), (by exact s11), rfl, rfl, by rw [newN_step hlt19, if_neg (ne_true_of_eq_false (by assumption))]; omega, by omega, takeA_next hlt19 hz (decide_eq_false (by assumption))⟩
  · skip
    refine Cd.exit ?_
    refine hK3 ?_
    refine Cd.seq (fun K36 hK36 => ?_)
    refine Cd.region [0, 1, 2] rfl ?_
    refine Seq.rd0 at0 rfl rfl (O.move (v := .int .i64 _) (by exact s9)) ?_
    refine Seq.rd0 at1 rfl rfl (O.leq rfl rfl) ?_
    refine Seq.rd0 at2 rfl rfl (O.assign (v := .bool _) rfl) ?_
    refine Seq.nil ?_
    refine hK36 ?_
    refine Cd.ret ?_
    exact hR _ _ (Res.one (v := .bool _) rfl rfl) ⟨congrArg Value.bool (Eq.symm (by obtain rfl : i = ws.length := (by omega); unfold roomS; rw [if_neg (by rw [anyA_none rfl hz]; decide), decide_eq_decide]; omega)), rfl⟩ (.refl _)

end Go.X

namespace Go.X
open Go.Proofs
end Go.X

namespace Go.X
open Go.Proofs

def longW (w : Write) : Bool := decide ((250 : Int) < (w.val.size : Int))
/-- are writes more than is asked of? -/
def longP (ws : List Write) : Bool := decide (20 < ws.length) || ws.any longW

end Go.X

namespace Go.X
open Go.Proofs

end Go.X

/- Runs of equal elements: what Compact makes of a list. -/
namespace Go.X
section
variable {α : Type} [DecidableEq α]
def dd : List α → List α
  | [] => []
  | x :: l => if l.head? = some x then dd l else x :: dd l
/-- a list without doubles is not longer than one that has all its elements -/
theorem nodup_le : ∀ {l m : List α}, l.Nodup → (∀ x ∈ l, x ∈ m) → l.length ≤ m.length
  | [], _, _, _ => by simp
  | x :: l, m, hn, hs => by
    rw [List.nodup_cons] at hn
    have hx : x ∈ m := hs x (by simp)
    have := nodup_le (l := l) (m := m.erase x) hn.2 (fun y hy => (List.mem_erase_of_ne (fun e => hn.1 (by rw [← e]; exact hy))).2 (hs y (by simp [hy])))
    rw [List.length_erase_of_mem hx] at this
    have hp : 0 < m.length := List.length_pos_of_mem hx
    simp only [List.length_cons]
    omega
/-- each once -/
def once : List α → List α
  | [] => []
  | x :: l => if x ∈ l then once l else x :: once l
theorem once_mem (k : α) : ∀ l : List α, k ∈ once l ↔ k ∈ l
  | [] => by simp [once]
  | x :: l => by
    have ih := once_mem k l
    simp only [once]
    split
    · rename_i h
      rw [ih, List.mem_cons]
      constructor
      · exact .inr
      · rintro (rfl | h2)
        · exact h
        · exact h2
    · simp [ih]
theorem once_nodup : ∀ l : List α, (once l).Nodup
  | [] => by simp [once]
  | x :: l => by
    simp only [once]
    split
    · exact once_nodup l
    · rename_i h
      rw [List.nodup_cons]
      exact ⟨fun h2 => h ((once_mem x l).1 h2), once_nodup l⟩
end
theorem KSorted.nodup {l : List Key} (h : KSorted l) : l.Nodup := by
  refine List.Pairwise.imp ?_ h
  intro a b hab e
  subst e
  have := (Key.cmp_eq (a := a) (b := a)).2 rfl
  omega
end Go.X

namespace Go.X
open Go.Proofs

theorem Fn.post {P : Program} {f : FuncId} {args : Array Value} {c : Cx} {L : List Pt} {post post' : Value → List Pt → Prop} (h : Fn P f args c L post)
    (hp : ∀ v L', post v L' → ∃ L'', post' v L'' ∧ L'.Perm L'') : Fn P f args c L post' := fun w hw => (h w hw).mono fun x w' ⟨v, h1, L', h2, h3⟩ => by
  obtain ⟨L'', h4, h5⟩ := hp v L' h2
  exact ⟨v, h1, L'', h4, h3.perm h5⟩
/-- one chain that is ours: its block, its row -/
def One (b : Nat) (vs : List Version) (G : List Pt) : Prop :=
  ∃ av cap Ls, G = (b, .cells #[.slice av vs.length cap] 300 (0, 0)) :: Ls ∧ OwnSl 242 4 (rows Version_enc vs) vs.length (.slice av vs.length cap) Ls ∧ Sorted vs ∧ vs.length ≤ 50
theorem One.ch {b : Nat} {vs : List Version} {G R : List Pt} {c : Cx} (h : One b vs G) : ChAt c (G ++ R) b vs := by
  obtain ⟨av, cap, Ls, rfl, h1, _, _⟩ := h
  rcases h1 with ⟨h0, _, hv, rfl⟩ | ⟨a, cap', sp, hv, _, _, _, rfl⟩
  · obtain rfl : vs = [] := List.length_eq_zero_iff.1 h0
    obtain ⟨rfl, rfl⟩ : av = none ∧ cap = 0 := by simpa using hv
    exact .inl ⟨rfl, .head⟩
  · obtain ⟨rfl, rfl⟩ : av = some ⟨a, 0, none⟩ ∧ cap = cap' := by simpa using hv
    exact .inr ⟨a, cap, sp, .head, Rd.head.cons⟩
theorem One.new {b : Nat} : One b [] [(b, .cells #[.slice none 0 0] 300 (0, 0))] := ⟨none, 0, [], rfl, .inl ⟨rfl, rfl, rfl, rfl⟩, .nil, by decide⟩
/-- the chains of a store -/
def ChOwn : List (Key × CV) → List Pt → Prop
  | [], Cs => Cs = []
  | q :: l, Cs => ∃ G C1, Cs = G ++ C1 ∧ One q.2.1 q.2.2 G ∧ ChOwn l C1
theorem ChOwn.take {k : Key} {q : CV} : ∀ {l : List (Key × CV)} {Cs : List Pt}, ChOwn l Cs → alook l k = some q → ∃ G C1, Cs.Perm (G ++ C1) ∧ One q.1 q.2 G ∧
    ∀ vs' G', One q.1 vs' G' → ∃ Cs', ChOwn (aput l k (q.1, vs')) Cs' ∧ (G' ++ C1).Perm Cs'
  | [], _, _, h => by simp [alook] at h
  | (y, u) :: l, Cs, hC, h => by
    obtain ⟨G, C1, rfl, hO, hC1⟩ := hC
    unfold alook at h
    split at h
    · rename_i he
      obtain rfl := Option.some.inj h
      refine ⟨G, C1, .refl _, hO, fun vs' G' hG' => ⟨G' ++ C1, ?_, .refl _⟩⟩
      simp only [aput, he, if_true]
      exact ⟨G', C1, rfl, hG', hC1⟩
    · rename_i he
      obtain ⟨G2, C2, hp, hO2, hb⟩ := ChOwn.take hC1 h
      refine ⟨G2, G ++ C2, ?_, hO2, fun vs' G' hG' => ?_⟩
      · exact (hp.append_left G).trans (List.perm_append_comm_assoc _ _ _)
      · obtain ⟨Cs', h1, h2⟩ := hb vs' G' hG'
        refine ⟨G ++ Cs', ?_, (List.perm_append_comm_assoc _ _ _).trans (h2.append_left G)⟩
        simp only [aput, he, if_false]
        exact ⟨G, Cs', rfl, hO, h1⟩
theorem ChOwn.new {k : Key} {b : Nat} {vs : List Version} {G : List Pt} (hG : One b vs G) : ∀ {l : List (Key × CV)} {Cs : List Pt}, ChOwn l Cs → alook l k = none →
    ∃ Cs', ChOwn (aput l k (b, vs)) Cs' ∧ (G ++ Cs).Perm Cs'
  | [], Cs, hC, _ => by
    obtain rfl : Cs = [] := hC
    exact ⟨G ++ [], ⟨G, [], rfl, hG, rfl⟩, .refl _⟩
  | (y, u) :: l, Cs, hC, h => by
    obtain ⟨G1, C1, rfl, hO, hC1⟩ := hC
    unfold alook at h
    split at h
    · cases h
    · rename_i he
      obtain ⟨Cs', h1, h2⟩ := ChOwn.new hG hC1 h
      refine ⟨G1 ++ Cs', ?_, (List.perm_append_comm_assoc _ _ _).trans (h2.append_left G1)⟩
      simp only [aput, he, if_false]
      exact ⟨G1, Cs', rfl, hO, h1⟩
theorem Rd.perm {c : Cx} {L L' : List Pt} {b : Nat} {o : Obj} (h : Rd c L b o) (hp : L'.Perm L) : Rd c L' b o := fun w hw => h w (hw.perm hp)
theorem ChAt.perm {c : Cx} {L L' : List Pt} {cb : Nat} {vs : List Version} (h : ChAt c L cb vs) (hp : L'.Perm L) : ChAt c L' cb vs := by
  rcases h with ⟨h1, h2⟩ | ⟨a, cap, sp, h1, h2⟩
  · exact .inl ⟨h1, h2.perm hp⟩
  · exact .inr ⟨a, cap, sp, h1.perm hp, h2.perm hp⟩
theorem ChOwn.ch {l : List (Key × CV)} {Cs R : List Pt} {c : Cx} {k : Key} {q : CV} (h : ChOwn l Cs) (hl : alook l k = some q) : ChAt c (Cs ++ R) q.1 q.2 ∧ Sorted q.2 ∧ q.2.length ≤ 50 := by
  obtain ⟨G, C1, hp, hO, _⟩ := h.take hl
  have h1 : ChAt c (G ++ (C1 ++ R)) q.1 q.2 := hO.ch
  refine ⟨h1.perm (by rw [← List.append_assoc]; exact hp.append_right R), ?_⟩
  obtain ⟨_, _, _, _, _, h2, h3⟩ := hO
  exact ⟨h2, h3⟩
/-- a store that is ours -/
structure StOwn (sb : Nat) (l : List (Key × CV)) (Ls : List Pt) : Prop where
  ex : ∃ mb es ck Cs, Ls = (sb, .cells #[.map (some mb)] 245 (0, 0)) :: (mb, .map es ck) :: Cs ∧ MapIs keyV cvV es ck l ∧ ChOwn l Cs
  size : l.length ≤ 200
theorem StOwn.at_ {sb : Nat} {l : List (Key × CV)} {Ls R : List Pt} {c : Cx} (h : StOwn sb l Ls) : StAt c (Ls ++ R) sb l := by
  obtain ⟨⟨mb, es, ck, Cs, rfl, h1, h2⟩, h3⟩ := h
  refine ⟨⟨mb, es, ck, .head, Rd.head.cons, h1⟩, fun k q hq => ?_, by omega⟩
  obtain ⟨h4, h5, h6⟩ := h2.ch (c := c) (R := R) hq
  exact ⟨h4.cons.cons, h5, by omega⟩
/-- a table that is ours -/
structure TbOwn (tb : Nat) (el : List (I64 × EV)) (hl : List (Key × I64)) (Ls : List Pt) : Prop where
  ex : ∃ lm es1 ck1 hm es2 ck2 J, Ls = (tb, .cells #[.map (some lm), .map (some hm)] 249 (0, 0)) :: (lm, .map es1 ck1) :: (hm, .map es2 ck2) :: J ∧ MapIs i64V evV es1 ck1 el ∧ MapIs keyV i64V es2 ck2 hl ∧
    ∀ id q, alook el id = some q → (∀ (c : Cx) (R : List Pt), SlAt c (J ++ R) Write_enc q.1.ws.a q.1.ws.n q.2) ∧ q.2.length ≤ 16
  size : el.length ≤ 100 ∧ hl.length ≤ 200
theorem TbOwn.at_ {tb : Nat} {el : List (I64 × EV)} {hl : List (Key × I64)} {Ls R : List Pt} {c : Cx} (h : TbOwn tb el hl Ls) : TbAt c (Ls ++ R) tb el hl := by
  obtain ⟨⟨lm, es1, ck1, hm, es2, ck2, J, rfl, h1, h2, h3⟩, h4, h5⟩ := h
  exact ⟨⟨lm, es1, ck1, hm, es2, ck2, .head, Rd.head.cons, h1, Rd.head.cons.cons, h2⟩, fun id q hq => ⟨((h3 id q hq).1 c R).cons.cons.cons, (h3 id q hq).2⟩, by omega, by omega⟩
/-- a part that is ours -/
structure PtOwn (pb : Nat) (l : List (Key × CV)) (el : List (I64 × EV)) (hl : List (Key × I64)) (ol : List (I64 × Int)) (Ls : List Pt) : Prop where
  ex : ∃ sb tb om es ck L1 L2, Ls = (pb, .cells #[.pointer (some ⟨sb, 0, none⟩), .pointer (some ⟨tb, 0, none⟩), .map (some om)] 144 (0, 0)) :: (om, .map es ck) :: (L1 ++ L2) ∧ StOwn sb l L1 ∧ TbOwn tb el hl L2 ∧ MapIs i64V intV es ck ol
theorem PtOwn.at_ {pb : Nat} {l : List (Key × CV)} {el : List (I64 × EV)} {hl : List (Key × I64)} {ol : List (I64 × Int)} {Ls R : List Pt} {c : Cx} (h : PtOwn pb l el hl ol Ls) : PtAt c (Ls ++ R) pb l el hl ol := by
  obtain ⟨⟨sb, tb, om, es, ck, L1, L2, rfl, h1, h2, h3⟩⟩ := h
  refine ⟨⟨sb, tb, om, es, ck, .head, ?_, ?_, Rd.head.cons, h3⟩⟩
  · have := h1.at_ (c := c) (R := L2 ++ R)
    rw [← List.append_assoc] at this
    exact this.cons.cons
  · have := (h2.at_ (c := c) (R := R)).app (G := L1)
    rw [← List.append_assoc] at this
    exact this.cons.cons

end Go.X

namespace Go.X
open Go.Proofs

section
variable {P : Program} {e : Env} {d : Option Tmp} {ty : TypeId} {p : String} {af : Array Edge} {g : Option (Nat × Bool)} {x y : Operand}
theorem O.sliceLt {t el sz len cap b o : Nat} {k : IntKind} {i : Int} (ht : sliceOf P t = some (el, sz)) (hx : ev e x = .slice (some ⟨b, o, none⟩) len cap) (hy : ev e y = .int k i) (h0 : 0 ≤ i) (h1 : i ≤ len) (h2 : i < cap) :
    Rn0 P e ⟨d, .slice t x (some y) none none, ty, p, af, g⟩ (.slice (some ⟨b, o + i.toNat * sz, none⟩) (len - i.toNat) (cap - i.toNat)) := by
  have := O.sliceL (d := d) (ty := ty) (p := p) (af := af) (g := g) ht hx hy h0 h1
  rwa [if_neg (by omega)] at this
end
section
variable {α : Type} {enc : α → Array Value} {sz : Nat}
end

end Go.X

namespace Go.X
open Go.Proofs
section
variable {P : Program} {e : Env} {d : Option Tmp} {ty : TypeId} {p : String} {af : Array Edge} {g : Option (Nat × Bool)} {x y : Operand} {v : Value} {c : Cx}
/-- 'append' to a slice that is ours alone, whatever comes behind it -/
theorem O.appendOwnZ {t t2 el sz by_ m k : Nat} {zv : Value} {old new : Array Value} {Ls R : List Pt} (ht : elemInfo P t = some (el, sz, by_, zv)) (ht2 : isDesc P t2 = 5) (hby : by_ ≠ 0)
    (hx : ev e x = v) (ho : OwnSl el sz old m v Ls) (hk : Src c (Ls ++ R) sz (ev e y) k new) (hone : ∀ u ∈ new.toList, Value.oneCell' u = true)
    (hroom : (2 * (m + k) + 192) * by_ ≤ 281474976710656) :
    Eg P e ⟨d, .call { callee := .builtin .append, args := #[x, y], argTypes := #[t, t2] }, ty, p, af, g⟩ c (Ls ++ R)
      (fun v' L' => ∃ Ls', OwnSl el sz (old ++ new) (m + k) v' Ls' ∧ L' = Ls' ++ R) := by
  by_cases hk0 : 0 < k
  · exact O.appendOwn ht ht2 hby hx ho hk hone hk0 hroom
  · obtain rfl : k = 0 := by omega
    have hn : new = #[] := Array.eq_empty_of_size_eq_zero (by rw [hk.size]; simp)
    subst hn
    rcases ho with ⟨rfl, rfl, rfl, rfl⟩ | ⟨b, cap, sp, rfl, h1, h2, h3, rfl⟩
    · intro w hw
      obtain ⟨hu, i, hi, rfl, rfl, hz, hzs⟩ := elem_parts ht
      obtain ⟨el2, hu2⟩ := desc_slice ht2
      have hf2 := hk.run (P := P) hw
      have hl := hk.len (P := P) w
      refine ⟨.slice none 0 0, w, _, .inl ?_, ⟨[], .inl ⟨rfl, rfl, rfl, rfl⟩, rfl⟩, hw⟩
      simp [execOp, resolve, invoke, builtin, Builtin.append_, hx, run_under hu, run_under hu2, run_size hi, hl, hf2]
    · have hA := O.appendIn (d := d) (ty := ty) (p := p) (af := af) (g := g) (new := #[]) (mid := #[]) (post := sp) (L := R) (k := 0) ht ht2 hx (by simpa using hk) hone (by omega) h3 (by simp)
      simp only [Array.empty_append] at hA
      refine Eg.mono hA ?_
      rintro v' L' ⟨rfl, rfl⟩
      exact ⟨_, ⟨[(b, _)], .inr ⟨b, cap, sp, rfl, h1, h2, by simpa using h3, by simp⟩, rfl⟩, .refl _⟩
end

end Go.X

/- What the mutators make of chains, stores, tables: plain. -/
namespace Go.X
/-- a version put into its place -/
def putV (vs : List Version) (x : Version) : List Version := vs.take (below vs x.stamp) ++ x :: vs.drop (below vs x.stamp)
def putE (vs : List Version) (x : Version) : Int :=
  if ¬ x.stamp.good ∨ 200 < (x.val.size : Int) ∨ (x.gone = true ∧ ¬ x.val = ⟨#[]⟩) then 1 else if hasS vs x.stamp = true then 5 else if 50 ≤ vs.length then 6 else 0
def afterPut (vs : List Version) (x : Version) : List Version := if putE vs x = 0 then putV vs x else vs
theorem hasS_false {vs : List Version} {s : Stamp} (h : hasS vs s = false) : ∀ v ∈ vs, v.stamp ≠ s := by
  unfold hasS at h
  rw [List.any_eq_false] at h
  intro v hv e
  exact h v hv (decide_eq_true e)
theorem putV_mem {vs : List Version} {x v : Version} : v ∈ putV vs x ↔ v = x ∨ v ∈ vs := by
  unfold putV
  rw [List.mem_append, List.mem_cons]
  have h : v ∈ vs ↔ v ∈ vs.take (below vs x.stamp) ∨ v ∈ vs.drop (below vs x.stamp) := by
    rw [← List.mem_append, List.take_append_drop]
  rw [h]
  constructor
  · rintro (h | h | h)
    · exact .inr (.inl h)
    · exact .inl h
    · exact .inr (.inr h)
  · rintro (h | h | h)
    · exact .inr (.inl h)
    · exact .inl h
    · exact .inr (.inr h)
theorem putV_sorted {vs : List Version} {x : Version} (hs : Sorted vs) (hn : hasS vs x.stamp = false) : Sorted (putV vs x) := by
  have hne := hasS_false hn
  unfold Sorted putV
  rw [List.pairwise_append, List.pairwise_cons]
  have hs' : (vs.take (below vs x.stamp) ++ vs.drop (below vs x.stamp)).Pairwise (fun a b => a.stamp.lt b.stamp) := by rw [List.take_append_drop]; exact hs
  rw [List.pairwise_append] at hs'
  have hlo : ∀ a ∈ vs.take (below vs x.stamp), a.stamp.lt x.stamp := by
    intro a ha
    obtain ⟨k, hk, rfl⟩ := List.getElem_of_mem ha
    rw [List.length_take] at hk
    rw [List.getElem_take]
    exact below_lt (by omega) _
  have hhi : ∀ b ∈ vs.drop (below vs x.stamp), x.stamp.lt b.stamp := by
    intro b hb
    have hbm : b ∈ vs := List.mem_of_mem_drop hb
    obtain ⟨k, hk, rfl⟩ := List.getElem_of_mem hb
    rw [List.length_drop] at hk
    rw [List.getElem_drop] at hbm ⊢
    have h1 := below_ge (s := x.stamp) hs (k := below vs x.stamp + k) (by omega) (by omega)
    rcases Stamp.lt_total (vs[below vs x.stamp + k]'(by omega)).stamp x.stamp with h2 | h2 | h2
    · exact absurd h2 h1
    · exact absurd h2 (hne _ (List.getElem_mem _))
    · exact h2
  refine ⟨hs'.1, ⟨hhi, hs'.2.1⟩, fun a ha b hb => ?_⟩
  rcases List.mem_cons.1 hb with rfl | hb
  · exact hlo a ha
  · exact hs'.2.2 a ha b hb
theorem putV_length {vs : List Version} {x : Version} : (putV vs x).length = vs.length + 1 := by
  unfold putV
  have := below_le vs x.stamp
  simp; omega
/-- what Apply makes of a store -/
inductive AppS (s : Stamp) (l : List (Key × CV)) : List Write → List (Key × CV) → Prop
  | nil : AppS s l [] l
  | snoc {ws : List Write} {l1 : List (Key × CV)} {w : Write} {cb : Nat} : AppS s l ws l1 → AppS s l (ws ++ [w]) (aput l1 w.key (cb, afterPut (getS l1 w.key) ⟨s, w.val, w.gone⟩))
theorem AppS.keys {s : Stamp} {l : List (Key × CV)} {ws : List Write} {l' : List (Key × CV)} (h : AppS s l ws l') : ∀ k, k ∈ l'.map Prod.fst ↔ k ∈ ws.map (·.key) ∨ k ∈ l.map Prod.fst := by
  induction h with
  | nil => intro k; simp
  | snoc h ih =>
    intro k
    rw [aput_keys, ih k, List.map_append, List.mem_append, List.map_cons, List.map_nil, List.mem_singleton]
    constructor
    · rintro (h | h | h)
      · exact .inl (.inr h)
      · exact .inl (.inl h)
      · exact .inr h
    · rintro ((h | h) | h)
      · exact .inr (.inl h)
      · exact .inl h
      · exact .inr (.inr h)
theorem getS_put {l : List (Key × CV)} {k k' : Key} {cb : Nat} {vs : List Version} : getS (aput l k (cb, vs)) k' = if k' = k then vs else getS l k' := by
  unfold getS
  by_cases h : k' = k
  · subst h; rw [alook_put_same, if_pos rfl]
  · rw [alook_put_ne _ h, if_neg h]
theorem AppS.getS_other {s : Stamp} {l : List (Key × CV)} {ws : List Write} {l' : List (Key × CV)} (h : AppS s l ws l') {k : Key} (hk : k ∉ ws.map (·.key)) : getS l' k = getS l k := by
  induction h with
  | nil => rfl
  | snoc h ih =>
    rw [List.map_append, List.mem_append, not_or] at hk
    have h2 : k ≠ _ := fun e => hk.2 (by rw [List.map_cons, List.map_nil, List.mem_singleton]; exact e)
    rw [getS_put, if_neg h2]
    exact ih hk.1
theorem AppS.getS_of {s : Stamp} {l : List (Key × CV)} {ws : List Write} {l' : List (Key × CV)} (h : AppS s l ws l') (hn : (ws.map (·.key)).Nodup) {w : Write} (hw : w ∈ ws) :
    getS l' w.key = afterPut (getS l w.key) ⟨s, w.val, w.gone⟩ := by
  induction h with
  | nil => simp at hw
  | snoc h ih =>
    rename_i ws l1 x cb
    rw [List.map_append, List.nodup_append] at hn
    rw [getS_put]
    rcases List.mem_append.1 hw with hw | hw
    · have hne : w.key ≠ x.key := fun e => hn.2.2 _ (List.mem_map.2 ⟨w, hw, rfl⟩) _ (by simp) e
      rw [if_neg hne]
      exact ih hn.1 hw
    · obtain rfl : w = x := by simpa using hw
      rw [if_pos rfl, h.getS_other (fun hm => hn.2.2 _ hm _ (by simp) rfl)]
def applyE (l : List (Key × CV)) (s : Stamp) (ws : List Write) : Int :=
  if ¬ s.good ∨ manyWs ws = false ∨ goodWs ws = false then 1 else if (ws.any fun w => hasS (getS l w.key) s) = true then 5 else if roomS l ws = false then 6 else 0
theorem aput_length {K V : Type} [DecidableEq K] (k : K) (v : V) : ∀ l : List (K × V), (aput l k v).length = l.length + if k ∈ l.map Prod.fst then 0 else 1
  | [] => by simp [aput]
  | (y, u) :: l => by
    unfold aput
    by_cases h : y = k
    · subst h; simp
    · have := aput_length k v l
      simp only [h, if_false, List.length_cons, this, List.map_cons, List.mem_cons, Ne.symm h, false_or]
      omega
/-- the holders behind Add, behind Drop -/
def holdL (hl : List (Key × I64)) (ws : List Write) (ti : I64) : List (Key × I64) := ws.foldl (fun h w => aput h w.key ti) hl
def dropL (hl : List (Key × I64)) (ws : List Write) : List (Key × I64) := ws.foldl (fun h w => adel h w.key) hl
theorem dropL_sub : ∀ {ws : List Write} {hl : List (Key × I64)}, (dropL hl ws).Sublist hl
  | [], _ => .refl _
  | w :: ws, hl => (dropL_sub (ws := ws) (hl := adel hl w.key)).trans (adel_sub _ _)
def addE (el : List (I64 × EV)) (hl : List (Key × I64)) (ti : I64) (e : Entry) (ws : List Write) : Int :=
  if goodE e ws = false then 1 else if (alook el ti).isSome = true then 5 else if (ws.any fun x => (alook hl x.key).isSome) = true then 9 else if 100 ≤ el.length then 6 else 0
/-- all keys: written, about to be written, of these writes -/
def allK (l : List (Key × CV)) (hl : List (Key × I64)) (ws : List Write) : List Key := l.map Prod.fst ++ (hl.map Prod.fst ++ ws.map (·.key))
def roomP (l : List (Key × CV)) (el : List (I64 × EV)) (hl : List (Key × I64)) (ws : List Write) : Bool :=
  if ws.any (fullS l) = true then false else decide (¬ 100 ≤ el.length ∧ (once (allK l hl ws)).length ≤ 200)
def mayP (l : List (Key × CV)) (el : List (I64 × EV)) (hl : List (Key × I64)) (ol : List (I64 × Int)) (ti : I64) (e : Entry) (ws : List Write) : Int :=
  if mayE e ws = false then 1 else if ¬ stateP ol el ti = 0 then 10 else if conflictP l hl e.snap ws = true then 9 else if roomP l el hl ws = false then 6 else 0
def prepP (l : List (Key × CV)) (el : List (I64 × EV)) (hl : List (Key × I64)) (ol : List (I64 × Int)) (ti : I64) (e : Entry) (ws : List Write) : Int :=
  if goodE e ws = false then 1 else mayP l el hl ol ti e ws
end Go.X

namespace Go.X
open Go.Proofs
theorem OwnSl.form {el sz m : Nat} {old : Array Value} {v : Value} {Ls : List Pt} (h : OwnSl el sz old m v Ls) : ∃ av cap, v = .slice av m cap := by
  rcases h with ⟨rfl, _, rfl, _⟩ | ⟨b, cap, sp, rfl, _⟩
  · exact ⟨none, 0, rfl⟩
  · exact ⟨_, cap, rfl⟩
theorem rows_all {α : Type} {enc : α → Array Value} {sz : Nat} (hs : ∀ x, (enc x).size = sz) {xs : List α} : (rows enc xs).extract 0 (0 + xs.length * sz) = rows enc xs := by
  rw [Nat.zero_add, ← rows_size hs]; simp

end Go.X

namespace Go.X
open Go.Proofs
section
variable {l : List (Key × CV)} {el : List (I64 × EV)} {hl : List (Key × I64)} {ol : List (I64 × Int)} {ti : I64} {e : Entry} {ws : List Write}
end

end Go.X

namespace Go.X
open Go.Proofs

theorem put_mid {cs pre mid post v : Array Value} {o : Nat} (h : cs = pre ++ (mid ++ post)) (hs : mid.size = v.size) (ho : o = pre.size) : putL cs o v.toList = pre ++ (v ++ post) := by
  subst h ho
  have := putL_mid v.toList pre.toList mid.toList post.toList (pre ++ (mid ++ post)) (by simp) (by simpa using hs)
  apply Array.ext'
  rw [Array.length_toList] at this
  rw [this]; simp
theorem split_arr {cs : Array Value} {a b : Nat} (h : cs.size = a + b) : ∃ x y, cs = x ++ y ∧ x.size = a ∧ y.size = b := by
  refine ⟨cs.extract 0 a, cs.extract a cs.size, ?_, ?_, ?_⟩
  · simp [Nat.max_eq_right (show a ≤ cs.size by omega)]
  · simp; omega
  · simp; omega
section
variable {P : Program} {e : Env} {d : Option Tmp} {ty : TypeId} {p : String} {af : Array Edge} {g : Option (Nat × Bool)} {x y : Operand} {c : Cx} {L : List Pt}
theorem O.copyA {t ts el sz b o dn cap k : Nat} {cs new : Array Value} {el' : TypeId} (ht : sliceOf P t = some (el, sz)) (hx : ev e x = .slice (some ⟨b, o, none⟩) dn cap) (hle : k ≤ dn)
    (hk : SrcR P c ((b, .cells cs el' (0, 0)) :: L) sz (ev e y) k k new) (hone : ∀ u ∈ new.toList, Value.oneCell' u = true) (hroom : o + new.size ≤ cs.size) {cs' : Array Value} (hcs : putL cs o new.toList = cs') :
    Eg P e ⟨d, .call { callee := .builtin .copy, args := #[x, y], argTypes := #[t, ts] }, ty, p, af, g⟩ c ((b, .cells cs el' (0, 0)) :: L)
      (fun v L' => v = .int .i64 (k : Int) ∧ L' = (b, .cells cs' el' (0, 0)) :: L) := by
  have hm : Nat.min k dn = k := Nat.min_eq_left hle
  have := O.copy (d := d) (ty := ty) (p := p) (af := af) (g := g) (ts := ts) (k := k) (dn := dn) ht hx (by rw [hm]; exact hk) hone hroom hcs
  rw [hm] at this; exact this
theorem O.copyB {t ts el sz b o dn cap k : Nat} {cs new : Array Value} {el' : TypeId} (ht : sliceOf P t = some (el, sz)) (hx : ev e x = .slice (some ⟨b, o, none⟩) dn cap) (hle : dn ≤ k)
    (hk : SrcR P c ((b, .cells cs el' (0, 0)) :: L) sz (ev e y) k dn new) (hone : ∀ u ∈ new.toList, Value.oneCell' u = true) (hroom : o + new.size ≤ cs.size) {cs' : Array Value} (hcs : putL cs o new.toList = cs') :
    Eg P e ⟨d, .call { callee := .builtin .copy, args := #[x, y], argTypes := #[t, ts] }, ty, p, af, g⟩ c ((b, .cells cs el' (0, 0)) :: L)
      (fun v L' => v = .int .i64 (dn : Int) ∧ L' = (b, .cells cs' el' (0, 0)) :: L) := by
  have hm : Nat.min k dn = dn := Nat.min_eq_right hle
  have := O.copy (d := d) (ty := ty) (p := p) (af := af) (g := g) (ts := ts) (k := k) (dn := dn) ht hx (by rw [hm]; exact hk) hone hroom hcs
  rw [hm] at this; exact this
theorem O.sliceNil {t el sz : Nat} (ht : sliceOf P t = some (el, sz)) (hx : ev e x = .slice none 0 0) (hy : ev e y = .int .i64 0) :
    Rn0 P e ⟨d, .slice t x (some y) none none, ty, p, af, g⟩ (.slice none 0 0) := fun w => by
  obtain ⟨hu, j, hi, rfl⟩ := slice_parts ht
  simp [execOp, Instr.sliceAt, Instr.slice, run_under hu, hx, hy, Instr.sliceBounds, Instr.sliceBound, asIntOf, run_size hi]
end

theorem rows_take4 {vs : List Version} {sp : Array Value} {i : Nat} (hi : i ≤ vs.length) : (rows Version_enc vs ++ sp).extract 0 (0 + i * 4) = rows Version_enc (vs.take i) := by
  have h1 : rows Version_enc vs = rows Version_enc (vs.take i) ++ rows Version_enc (vs.drop i) := by rw [← rows_append, List.take_append_drop]
  have h2 : (rows Version_enc (vs.take i)).size = i * 4 := by rw [rows_size Version_size, List.length_take]; omega
  rw [h1, Array.append_assoc]
  have := ext_mid (pre := #[]) (mid := rows Version_enc (vs.take i)) (sp := rows Version_enc (vs.drop i) ++ sp)
  rw [Array.empty_append, h2] at this
  exact this
theorem rows_drop4 {vs : List Version} {sp : Array Value} {i m : Nat} (hi : i ≤ vs.length) (hm : m = vs.length - i) : (rows Version_enc vs ++ sp).extract (0 + ((i : Nat) : Int).toNat * 4) (0 + ((i : Nat) : Int).toNat * 4 + m * 4) = rows Version_enc (vs.drop i) := by
  subst hm
  have h1 : rows Version_enc vs = rows Version_enc (vs.take i) ++ rows Version_enc (vs.drop i) := by rw [← rows_append, List.take_append_drop]
  have h2 : (rows Version_enc (vs.take i)).size = i * 4 := by rw [rows_size Version_size, List.length_take]; omega
  have h3 : (rows Version_enc (vs.drop i)).size = (vs.length - i) * 4 := by rw [rows_size Version_size, List.length_drop]
  rw [h1, Array.append_assoc, Int.toNat_natCast, Nat.zero_add]
  have := ext_mid (pre := rows Version_enc (vs.take i)) (mid := rows Version_enc (vs.drop i)) (sp := sp)
  rw [h2, h3] at this
  exact this
theorem put3 {pre a b s v : Array Value} {o : Nat} (hs : v.size = a.size) (ho : o = pre.size) : putL (pre ++ ((a ++ b) ++ s)) o v.toList = pre ++ ((v ++ b) ++ s) := by
  rw [put_mid (pre := pre) (mid := a) (post := b ++ s) (by simp) hs.symm ho]; simp
theorem put4 {pre a b s v : Array Value} {o : Nat} (hs : v.size = b.size) (ho : o = pre.size + a.size) : putL (pre ++ ((a ++ b) ++ s)) o v.toList = pre ++ ((a ++ v) ++ s) := by
  rw [put_mid (pre := pre ++ a) (mid := b) (post := s) (by simp) hs.symm (by simpa using ho)]; simp
theorem put5 {vs : List Version} {a b : Array Value} {o i : Nat} (hi : i < vs.length) (ha : a.size = 4) (ho : o = (i + 1) * 4) : putL (rows Version_enc vs ++ (a ++ b)) o (rows Version_enc (vs.drop i)).toList = rows Version_enc (vs.take (i + 1)) ++ (rows Version_enc (vs.drop i) ++ b) := by
  have h1 : rows Version_enc vs = rows Version_enc (vs.take (i + 1)) ++ rows Version_enc (vs.drop (i + 1)) := by rw [← rows_append, List.take_append_drop]
  refine put_mid (mid := rows Version_enc (vs.drop (i + 1)) ++ a) (by rw [h1]; simp) ?_ ?_
  · simp only [Array.size_append, rows_size Version_size, List.length_drop, ha]; omega
  · simp only [rows_size Version_size, List.length_take]; omega
theorem put6 {vs : List Version} {s : Array Value} {x : Version} {o i : Nat} (hi : i < vs.length) (ho : o = i * 4) : putL (rows Version_enc (vs.take (i + 1)) ++ s) o (rows Version_enc [x]).toList = rows Version_enc (vs.take i) ++ (rows Version_enc [x] ++ s) := by
  have h1 : rows Version_enc (vs.take (i + 1)) = rows Version_enc (vs.take i) ++ rows Version_enc [vs[i]] := by rw [← rows_append, List.take_append_getElem hi]
  refine put_mid (mid := rows Version_enc [vs[i]]) (by rw [h1]; simp) ?_ ?_
  · simp only [rows_size Version_size, List.length_cons, List.length_nil]
  · simp only [rows_size Version_size, List.length_take]; omega
theorem ins_rows {vs : List Version} {x : Version} {i : Nat} : rows Version_enc (vs.take i ++ x :: vs.drop i) = rows Version_enc (vs.take i) ++ (rows Version_enc [x] ++ rows Version_enc (vs.drop i)) := by
  rw [← rows_append, ← rows_append]; rfl
theorem ins_len {vs : List Version} {x : Version} {i : Nat} (hi : i ≤ vs.length) : (vs.take i ++ x :: vs.drop i).length = vs.length + 1 := by
  rw [List.length_append, List.length_cons, List.length_take, List.length_drop]; omega

set_option maxRecDepth 100000 in
set_option maxHeartbeats 2000000 in
theorem C_Insert_own {c : Cx} {L : List Pt} {b cap bs i : Nat} {vs : List Version} {x : Version} {sp : Array Value} (hcap : vs.length ≤ cap) (hsp : sp.size = (cap - vs.length) * 4) (hi : i ≤ vs.length) (hlt : vs.length ≤ 1000000000) (hne : bs ≠ b) (hbs : Rd c L bs (.cells (rows Version_enc [x]) 242 (0, 0))) : Fn Tryz.prog 224 #[.slice (some ⟨b, 0, none⟩) vs.length cap, .int .i64 (i : Nat), .slice (some ⟨bs, 0, none⟩) 1 1] c ((b, .cells (rows Version_enc vs ++ sp) 242 (0, 0)) :: L) (fun v L' => ∃ av' cap' Ls', v = .slice av' (vs.length + 1) cap' ∧ OwnSl 242 4 (rows Version_enc (vs.take i ++ x :: vs.drop i)) (vs.length + 1) v Ls' ∧ L' = Ls' ++ L) := by
  refine Fn.enter Tryz.func224 rfl 95 rfl rfl (fun R hR => ?_)
  refine Cd.seq (fun K1 hK1 => ?_)
  refine Cd.region [0] rfl ?_
  refine Seq.rd0 at0 rfl rfl (O.assign (v := .slice _ _ _) rfl) ?_
  refine Seq.nil ?_
  refine hK1 ?_
  refine Cd.seq (fun K2 hK2 => ?_)
  refine Cd.region [0, 1, 2] rfl ?_
  refine Seq.rd0 at0 rfl rfl (O.move (v := .slice _ _ _) rfl) ?_
  refine Seq.rd0 at1 rfl rfl (O.move (v := .int .i64 _) rfl) ?_
  refine Seq.rd0 at2 rfl rfl (O.sliceL sl_239 rfl rfl (by omega) (by omega)) ?_
  refine Seq.nil ?_
  refine hK2 ?_
  refine Cd.seq (fun K3 hK3 => ?_)
  refine Cd.region [0, 1, 2] rfl ?_
  refine Seq.rd0 at0 rfl rfl (O.move (v := .slice _ _ _) rfl) ?_
  refine Seq.rd0 at1 rfl rfl (O.lenS ds_239 rfl) ?_
  refine Seq.rd0 at2 rfl rfl (O.assign (v := .int .i64 _) rfl) ?_
  refine Seq.nil ?_
  refine hK3 ?_
  refine Cd.seq (fun K4 hK4 => ?_)
  refine Cd.seq (fun K5 hK5 => ?_)
  refine Cd.region [0, 1] rfl ?_
  refine Seq.rd0 at0 rfl rfl (O.move (v := .int .i64 _) rfl) ?_
  refine Seq.rd0 at1 rfl rfl (O.eqI rfl rfl) ?_
  refine Seq.nil ?_
  refine hK5 ?_
  refine Cd.if ((1 : Int) = 0) rfl (fun t6 => ?_) (fun t6 => ?_)
  · skip
    exact absurd t6 (by decide)
  · skip
    refine Cd.skip ?_
    refine hK4 ?_
    refine Cd.seq (fun K7 hK7 => ?_)
    refine Cd.region [0, 1, 2] rfl ?_
    refine Seq.rd0 at0 rfl rfl (O.move (v := .slice _ _ _) rfl) ?_
    refine Seq.rd0 at1 rfl rfl (O.lenS ds_239 rfl) ?_
    refine Seq.rd0 at2 rfl rfl (O.assign (v := .int .i64 _) rfl) ?_
    refine Seq.nil ?_
    refine hK7 ?_
    refine Cd.seq (fun K8 hK8 => ?_)
    refine Cd.seq (fun K9 hK9 => ?_)
    refine Cd.region [0, 1, 2] rfl ?_
    refine Seq.rd0 at0 rfl rfl (O.move (v := .int .i64 _) rfl) ?_
    refine Seq.rd0 at1 rfl rfl (O.move (v := .int .i64 _) rfl) ?_
    refine Seq.rd0 at2 rfl rfl (O.eqI rfl rfl) ?_
    refine Seq.nil ?_
    refine hK9 ?_
    refine Cd.if ((i : Int) = (vs.length : Int)) rfl (fun t10 => ?_) (fun t10 => ?_)
    · skip
      refine Cd.seq (fun K11 hK11 => ?_)
      refine Cd.region [0, 1, 2, 3] rfl ?_
      refine Seq.rd0 at0 rfl rfl (O.move (v := .slice _ _ _) rfl) ?_
      refine Seq.rd0 at1 rfl rfl (O.move (v := .slice _ _ _) rfl) ?_
      refine Seq.op at2 rfl (Op.gen rfl (O.appendOwnZ (k := 1) (new := rows Version_enc [x]) (m := vs.length) (old := rows Version_enc vs) (Ls := [(b, _)]) (R := L) ei_239 ds_239 (by decide) rfl (.inr ⟨b, cap, sp, rfl, hcap, hsp, rows_size Version_size vs, rfl⟩) (.inr ⟨bs, 0, 1, _, _, _, rfl, hbs.cons, Nat.le_of_ble_eq_true rfl, rows_all Version_size⟩) (rows_ones Version_one) (by omega)) ?_)
      rintro vr _ ⟨Lr, hr, rfl⟩
      refine Seq.rd0 at3 rfl rfl (O.assign (v := vr) rfl) ?_
      refine Seq.nil ?_
      refine hK11 ?_
      refine Cd.ret ?_
      obtain ⟨ar, cr, rfl⟩ := hr.form
      have hii : i = vs.length := by omega
      exact hR _ _ (Res.one (v := .slice _ _ _) rfl rfl) ⟨ar, cr, Lr, rfl, by rw [ins_rows, hii, List.take_of_length_le (Nat.le_refl _), List.drop_length]; simpa [rows] using hr, rfl⟩ (.refl _)
    · skip
      refine Cd.skip ?_
      refine hK8 ?_
      refine Cd.seq (fun K12 hK12 => ?_)
      refine Cd.seq (fun K13 hK13 => ?_)
      refine Cd.region [0, 1, 2, 3, 4, 5] rfl ?_
      refine Seq.rd0 at0 rfl rfl (O.move (v := .int .i64 _) rfl) ?_
      refine Seq.rd0 at1 rfl rfl (O.move (v := .int .i64 _) rfl) ?_
      refine Seq.rd0 at2 rfl rfl (O.add rfl rfl (by omega) (by omega)) ?_
      refine Seq.rd0 at3 rfl rfl (O.move (v := .slice _ _ _) rfl) ?_
      refine Seq.rd0 at4 rfl rfl (O.capS ds_239 rfl) ?_
      refine Seq.rd0 at5 rfl rfl (O.gtr rfl rfl) ?_
      refine Seq.nil ?_
      refine hK13 ?_
      refine Cd.if ((cap : Int) < ((vs.length : Int) + 1)) rfl (fun t14 => ?_) (fun t14 => ?_)
      · skip
        refine Cd.seq (fun K15 hK15 => ?_)
        refine Cd.region [0, 1, 2, 3, 4, 5, 6, 7, 8, 9] rfl ?_
        refine Seq.rd0 at0 rfl rfl (O.move (v := .slice _ _ _) rfl) ?_
        refine Seq.rd0 at1 rfl rfl (O.move (v := .int .i64 _) rfl) ?_
        refine Seq.rd0 at2 rfl rfl (O.sliceH sl_239 rfl rfl (by omega) (by omega) (by intro q hq; cases hq; rfl)) ?_
        refine Seq.rd0 at3 rfl rfl (O.move (v := .int .i64 _) rfl) ?_
        refine Seq.rd0 at4 rfl rfl (O.move (v := .int .i64 _) rfl) ?_
        refine Seq.rd0 at5 rfl rfl (O.add rfl rfl (by omega) (by omega)) ?_
        refine Seq.rd0 at6 rfl rfl (O.move (v := .int .i64 _) rfl) ?_
        refine Seq.rd0 at7 rfl rfl (O.sub rfl rfl (by omega) (by omega)) ?_
        refine Seq.op at8 rfl (Op.gen rfl (O.appendMake (m := i) (k := vs.length + 1 - i) (old := rows Version_enc (vs.take i)) ei_239 io_3 (by decide) rfl (by show Value.int .i64 _ = Value.int .i64 _; congr 1; omega) (.inr ⟨b, 0, cap, _, _, _, rfl, .head, by rw [Array.size_append, rows_size Version_size]; have := Nat.mul_le_mul_right 4 hi; omega, rows_take4 hi⟩) (by omega) (by omega)) ?_)
        rintro _ _ ⟨b2, cap2, new2, sp2, hb2, hcap2, hnew2, hsp2, rfl, rfl⟩
        obtain ⟨nA, nB, rfl, hnA, hnB⟩ := split_arr (cs := new2) (a := 4) (b := (vs.length - i) * 4) (by rw [hnew2]; omega)
        refine Seq.rd0 at9 rfl rfl (O.assign (v := .slice _ _ _) rfl) ?_
        refine Seq.nil ?_
        refine hK15 ?_
        refine Cd.seq (fun K16 hK16 => ?_)
        refine Cd.region [0, 1, 2, 3, 4] rfl ?_
        refine Seq.rd0 at0 rfl rfl (O.move (v := .slice _ _ _) rfl) ?_
        refine Seq.rd0 at1 rfl rfl (O.move (v := .int .i64 _) rfl) ?_
        refine Seq.rd0 at2 rfl rfl (O.sliceLt sl_239 rfl rfl (by omega) (by omega) (by omega)) ?_
        refine Seq.rd0 at3 rfl rfl (O.move (v := .slice _ _ _) rfl) ?_
        refine Seq.op at4 rfl (Op.gen rfl (O.copyA (k := 1) (new := rows Version_enc [x]) sl_239 rfl (by omega) (SrcR.slice (hbs.cons.cons) (Nat.le_of_ble_eq_true rfl) (rows_all Version_size (xs := [x]))) (rows_ones Version_one) (by simp only [Array.size_append, rows_size Version_size, hnA, List.length_take, List.length_cons, List.length_nil]; omega) (put3 (by rw [rows_size Version_size, hnA]; rfl) (by rw [rows_size Version_size, List.length_take]; simp; omega))) ?_)
        rintro _ _ ⟨rfl, rfl⟩
        refine Seq.nil ?_
        refine hK16 ?_
        refine Cd.seq (fun K17 hK17 => ?_)
        refine Cd.draw 9 rfl po ?_
        refine Any.rd0 0 at0 rfl rfl (O.move (v := .slice _ _ _) rfl) (by kernel_rfl) (by kernel_rfl) (by kernel_rfl) ?_
        refine Any.rd0 1 at1 rfl rfl (O.move (v := .int .i64 _) rfl) (by kernel_rfl) (by kernel_rfl) (by kernel_rfl) ?_
        refine Any.rd0 2 at2 rfl rfl (O.move (v := .int .i64 _) rfl) (by kernel_rfl) (by kernel_rfl) (by kernel_rfl) ?_
        refine Any.rd0 3 at3 rfl rfl (O.add rfl rfl (by omega) (by omega)) (by kernel_rfl) (by kernel_rfl) (by kernel_rfl) ?_
        refine Any.rd0 4 at4 rfl rfl (O.sliceLt sl_239 rfl rfl (by omega) (by omega) (by omega)) (by kernel_rfl) (by kernel_rfl) (by kernel_rfl) ?_
        refine Any.rd0 5 at5 rfl rfl (O.move (v := .slice _ _ _) rfl) (by kernel_rfl) (by kernel_rfl) (by kernel_rfl) ?_
        refine Any.rd0 6 at6 rfl rfl (O.move (v := .int .i64 _) rfl) (by kernel_rfl) (by kernel_rfl) (by kernel_rfl) ?_
        refine Any.rd0 7 at7 rfl rfl (O.sliceLt sl_239 rfl rfl (by omega) (by omega) (by omega)) (by kernel_rfl) (by kernel_rfl) (by kernel_rfl) ?_
        refine Any.one 8 at8 rfl (by kernel_rfl) trivial ?_
        refine Op.gen rfl (O.copyB (new := rows Version_enc (vs.drop i)) sl_239 rfl (by omega) (SrcR.slice (Rd.head.cons) (by rw [Array.size_append, rows_size Version_size]; omega) (rows_drop4 hi (by omega))) (rows_ones Version_one) (by simp only [Array.size_append, rows_size Version_size, hnB, List.length_take, List.length_drop, List.length_cons, List.length_nil]; omega) (put4 (by rw [rows_size Version_size, hnB, List.length_drop]) (by simp only [rows_size Version_size, List.length_take, List.length_cons, List.length_nil]; omega))) ?_
        rintro _ _ ⟨rfl, rfl⟩
        refine Any.toK ?_
        refine Any.done (by kernel_rfl) trivial ?_
        refine hK17 ?_
        refine Cd.seq (fun K18 hK18 => ?_)
        refine Cd.region [0, 1] rfl ?_
        refine Seq.rd0 at0 rfl rfl (O.move (v := .slice _ _ _) rfl) ?_
        refine Seq.rd0 at1 rfl rfl (O.assign (v := .slice _ _ _) rfl) ?_
        refine Seq.nil ?_
        refine hK18 ?_
        refine Cd.ret ?_
        have hnn : i + (vs.length + 1 - i) = vs.length + 1 := by omega
        exact hR _ ((b2, _) :: L) (Res.one (v := .slice _ _ _) rfl rfl) ⟨_, cap2, [(b2, _)], by rw [hnn], .inr ⟨b2, cap2, sp2, by rw [hnn], by omega, by rw [hsp2, hnn], by rw [rows_size Version_size, ins_len hi], by rw [ins_rows]; simp⟩, rfl⟩ (.cons_cons _ (.cons _ (.refl _)))
      · skip
        refine Cd.skip ?_
        refine hK12 ?_
        refine Cd.seq (fun K19 hK19 => ?_)
        refine Cd.region [0, 1, 2, 3, 4, 5] rfl ?_
        refine Seq.rd0 at0 rfl rfl (O.move (v := .slice _ _ _) rfl) ?_
        refine Seq.rd0 at1 rfl rfl (O.move (v := .int .i64 _) rfl) ?_
        refine Seq.rd0 at2 rfl rfl (O.move (v := .int .i64 _) rfl) ?_
        refine Seq.rd0 at3 rfl rfl (O.add rfl rfl (by omega) (by omega)) ?_
        refine Seq.rd0 at4 rfl rfl (O.sliceH sl_239 rfl rfl (by omega) (by omega) (by intro q hq; cases hq; rfl)) ?_
        refine Seq.rd0 at5 rfl rfl (O.assign (v := .slice _ _ _) rfl) ?_
        refine Seq.nil ?_
        refine hK19 ?_
        refine Cd.seq (fun K20 hK20 => ?_)
        refine Cd.seq (fun K21 hK21 => ?_)
        refine Cd.region [0, 1, 2, 3, 4, 5, 6, 7] rfl ?_
        refine Seq.rd0 at0 rfl rfl (O.move (v := .slice _ _ _) rfl) ?_
        refine Seq.rd0 at1 rfl rfl (O.move (v := .slice _ _ _) rfl) ?_
        refine Seq.rd0 at2 rfl rfl (O.move (v := .int .i64 _) rfl) ?_
        refine Seq.rd0 at3 rfl rfl (O.move (v := .int .i64 _) rfl) ?_
        refine Seq.rd0 at4 rfl rfl (O.add rfl rfl (by omega) (by omega)) ?_
        refine Seq.rd0 at5 rfl rfl (O.sliceLt sl_239 rfl rfl (by omega) (by omega) (by omega)) ?_
        obtain ⟨spA, spB, rfl, hsA, hsB⟩ := split_arr (cs := sp) (a := 4) (b := (cap - vs.length - 1) * 4) (by rw [hsp]; omega)
        have hin : i < vs.length := by omega
        refine Seq.op at6 rfl (Op.gen rfl (O.overlapsNo (tR := 4) (t := 239) Tryz.func249 (by kernel_rfl) (by kernel_rfl) (by kernel_rfl) (by kernel_rfl) sl_239 rfl rfl hne hbs.cons Rd.head (by simp only [Array.size_append, hsA]; omega)) ?_)
        rintro _ _ ⟨rfl, rfl⟩
        refine Seq.rd0 at7 rfl rfl (O.not rfl) ?_
        refine Seq.nil ?_
        refine hK21 ?_
        refine Cd.condT rfl ?_
        refine Cd.seq (fun K22 hK22 => ?_)
        refine Cd.draw 9 rfl po ?_
        refine Any.rd0 0 at0 rfl rfl (O.move (v := .slice _ _ _) rfl) (by kernel_rfl) (by kernel_rfl) (by kernel_rfl) ?_
        refine Any.rd0 1 at1 rfl rfl (O.move (v := .int .i64 _) rfl) (by kernel_rfl) (by kernel_rfl) (by kernel_rfl) ?_
        refine Any.rd0 2 at2 rfl rfl (O.move (v := .int .i64 _) rfl) (by kernel_rfl) (by kernel_rfl) (by kernel_rfl) ?_
        refine Any.rd0 3 at3 rfl rfl (O.add rfl rfl (by omega) (by omega)) (by kernel_rfl) (by kernel_rfl) (by kernel_rfl) ?_
        refine Any.rd0 4 at4 rfl rfl (O.sliceLt sl_239 rfl rfl (by omega) (by omega) (by omega)) (by kernel_rfl) (by kernel_rfl) (by kernel_rfl) ?_
        refine Any.rd0 5 at5 rfl rfl (O.move (v := .slice _ _ _) rfl) (by kernel_rfl) (by kernel_rfl) (by kernel_rfl) ?_
        refine Any.rd0 6 at6 rfl rfl (O.move (v := .int .i64 _) rfl) (by kernel_rfl) (by kernel_rfl) (by kernel_rfl) ?_
        refine Any.rd0 7 at7 rfl rfl (O.sliceLt sl_239 rfl rfl (by omega) (by omega) (by omega)) (by kernel_rfl) (by kernel_rfl) (by kernel_rfl) ?_
        refine Any.one 8 at8 rfl (by kernel_rfl) trivial ?_
        refine Op.gen rfl (O.copyB (new := rows Version_enc (vs.drop i)) sl_239 rfl (by omega) (SrcR.slice (Rd.head) (by simp only [Array.size_append, rows_size Version_size, hsA, hsB]; omega) (rows_drop4 hi (by omega))) (rows_ones Version_one) (by simp only [Array.size_append, rows_size Version_size, hsA, hsB, List.length_drop]; omega) (put5 hin hsA (by omega))) ?_
        rintro _ _ ⟨rfl, rfl⟩
        refine Any.toK ?_
        refine Any.done (by kernel_rfl) trivial ?_
        refine hK22 ?_
        refine Cd.seq (fun K23 hK23 => ?_)
        refine Cd.region [0, 1, 2, 3, 4] rfl ?_
        refine Seq.rd0 at0 rfl rfl (O.move (v := .slice _ _ _) rfl) ?_
        refine Seq.rd0 at1 rfl rfl (O.move (v := .int .i64 _) rfl) ?_
        refine Seq.rd0 at2 rfl rfl (O.sliceLt sl_239 rfl rfl (by omega) (by omega) (by omega)) ?_
        refine Seq.rd0 at3 rfl rfl (O.move (v := .slice _ _ _) rfl) ?_
        refine Seq.op at4 rfl (Op.gen rfl (O.copyA (k := 1) (new := rows Version_enc [x]) sl_239 rfl (by omega) (SrcR.slice (hbs.cons) (Nat.le_of_ble_eq_true rfl) (rows_all Version_size (xs := [x]))) (rows_ones Version_one) (by simp only [Array.size_append, rows_size Version_size, hsB, List.length_drop, List.length_take, List.length_cons, List.length_nil]; omega) (put6 hin (by omega))) ?_)
        rintro _ _ ⟨rfl, rfl⟩
        refine Seq.nil ?_
        refine hK23 ?_
        refine Cd.seq (fun K24 hK24 => ?_)
        refine Cd.region [0, 1] rfl ?_
        refine Seq.rd0 at0 rfl rfl (O.move (v := .slice _ _ _) rfl) ?_
        refine Seq.rd0 at1 rfl rfl (O.assign (v := .slice _ _ _) rfl) ?_
        refine Seq.nil ?_
        refine hK24 ?_
        refine Cd.ret ?_
        have hnn : ((vs.length : Int) + ((1 : Nat) : Int)).toNat = vs.length + 1 := by omega
        exact hR _ ((b, _) :: L) (Res.one (v := .slice _ _ _) rfl rfl) ⟨_, cap, [(b, _)], by rw [hnn], .inr ⟨b, cap, spB, by rw [hnn], by omega, by rw [hsB]; congr 1, by rw [rows_size Version_size, ins_len hi], by rw [ins_rows]; simp⟩, rfl⟩ (.refl _)

end Go.X

namespace Go.X
open Go.Proofs
theorem hb_224 : hasBody Tryz.prog 224 = true := by kernel_rfl
set_option maxRecDepth 100000 in
set_option maxHeartbeats 2000000 in
theorem C_Insert_nil {c : Cx} {L : List Pt} {bs : Nat} {x : Version} (hbs : Rd c L bs (.cells (rows Version_enc [x]) 242 (0, 0))) : Fn Tryz.prog 224 #[.slice none 0 0, .int .i64 0, .slice (some ⟨bs, 0, none⟩) 1 1] c L (fun v L' => ∃ av' cap' Ls', v = .slice av' 1 cap' ∧ OwnSl 242 4 (rows Version_enc [x]) 1 v Ls' ∧ L' = Ls' ++ L) := by
  refine Fn.enter Tryz.func224 rfl 95 rfl rfl (fun R hR => ?_)
  refine Cd.seq (fun K1 hK1 => ?_)
  refine Cd.region [0] rfl ?_
  refine Seq.rd0 at0 rfl rfl (O.assign (v := .slice _ _ _) rfl) ?_
  refine Seq.nil ?_
  refine hK1 ?_
  refine Cd.seq (fun K2 hK2 => ?_)
  refine Cd.region [0, 1, 2] rfl ?_
  refine Seq.rd0 at0 rfl rfl (O.move (v := .slice _ _ _) rfl) ?_
  refine Seq.rd0 at1 rfl rfl (O.move (v := .int .i64 _) rfl) ?_
  refine Seq.rd0 at2 rfl rfl (O.sliceNil sl_239 rfl rfl) ?_
  refine Seq.nil ?_
  refine hK2 ?_
  refine Cd.seq (fun K3 hK3 => ?_)
  refine Cd.region [0, 1, 2] rfl ?_
  refine Seq.rd0 at0 rfl rfl (O.move (v := .slice _ _ _) rfl) ?_
  refine Seq.rd0 at1 rfl rfl (O.lenS ds_239 rfl) ?_
  refine Seq.rd0 at2 rfl rfl (O.assign (v := .int .i64 _) rfl) ?_
  refine Seq.nil ?_
  refine hK3 ?_
  refine Cd.seq (fun K4 hK4 => ?_)
  refine Cd.seq (fun K5 hK5 => ?_)
  refine Cd.region [0, 1] rfl ?_
  refine Seq.rd0 at0 rfl rfl (O.move (v := .int .i64 _) rfl) ?_
  refine Seq.rd0 at1 rfl rfl (O.eqI rfl rfl) ?_
  refine Seq.nil ?_
  refine hK5 ?_
  refine Cd.if ((1 : Int) = 0) rfl (fun t6 => ?_) (fun t6 => ?_)
  · skip
    exact absurd t6 (by decide)
  · skip
    refine Cd.skip ?_
    refine hK4 ?_
    refine Cd.seq (fun K7 hK7 => ?_)
    refine Cd.region [0, 1, 2] rfl ?_
    refine Seq.rd0 at0 rfl rfl (O.move (v := .slice _ _ _) rfl) ?_
    refine Seq.rd0 at1 rfl rfl (O.lenS ds_239 rfl) ?_
    refine Seq.rd0 at2 rfl rfl (O.assign (v := .int .i64 _) rfl) ?_
    refine Seq.nil ?_
    refine hK7 ?_
    refine Cd.seq (fun K8 hK8 => ?_)
    refine Cd.seq (fun K9 hK9 => ?_)
    refine Cd.region [0, 1, 2] rfl ?_
    refine Seq.rd0 at0 rfl rfl (O.move (v := .int .i64 _) rfl) ?_
    refine Seq.rd0 at1 rfl rfl (O.move (v := .int .i64 _) rfl) ?_
    refine Seq.rd0 at2 rfl rfl (O.eqI rfl rfl) ?_
    refine Seq.nil ?_
    refine hK9 ?_
    refine Cd.if ((0 : Int) = 0) rfl (fun t10 => ?_) (fun t10 => ?_)
    · skip
      refine Cd.seq (fun K11 hK11 => ?_)
      refine Cd.region [0, 1, 2, 3] rfl ?_
      refine Seq.rd0 at0 rfl rfl (O.move (v := .slice _ _ _) rfl) ?_
      refine Seq.rd0 at1 rfl rfl (O.move (v := .slice _ _ _) rfl) ?_
      refine Seq.op at2 rfl (Op.gen rfl (O.appendOwnZ (k := 1) (new := rows Version_enc [x]) (m := 0) (old := #[]) (Ls := []) (R := L) ei_239 ds_239 (by decide) rfl (.inl ⟨rfl, rfl, rfl, rfl⟩) (.inr ⟨bs, 0, 1, _, _, _, rfl, hbs, Nat.le_of_ble_eq_true rfl, rows_all Version_size⟩) (rows_ones Version_one) (by omega)) ?_)
      rintro vr _ ⟨Lr, hr, rfl⟩
      refine Seq.rd0 at3 rfl rfl (O.assign (v := vr) rfl) ?_
      refine Seq.nil ?_
      refine hK11 ?_
      refine Cd.ret ?_
      obtain ⟨ar, cr, rfl⟩ := hr.form
      exact hR _ _ (Res.one (v := .slice _ _ _) rfl rfl) ⟨ar, cr, Lr, rfl, by simpa using hr, rfl⟩ (.refl _)
    · skip
      exact absurd rfl t10

theorem C_Insert {c : Cx} {R Ls : List Pt} {av : Option Addr} {cap bs i : Nat} {vs : List Version} {x : Version} (ho : OwnSl 242 4 (rows Version_enc vs) vs.length (.slice av vs.length cap) Ls) (hi : i ≤ vs.length) (hlt : vs.length ≤ 1000000000)
    (hbs : (bs, .cells (rows Version_enc [x]) 242 (0, 0)) ∈ R) : Fn Tryz.prog 224 #[.slice av vs.length cap, .int .i64 (i : Nat), .slice (some ⟨bs, 0, none⟩) 1 1] c (Ls ++ R)
      (fun v L' => ∃ av' cap' Ls', v = .slice av' (vs.length + 1) cap' ∧ OwnSl 242 4 (rows Version_enc (vs.take i ++ x :: vs.drop i)) (vs.length + 1) (.slice av' (vs.length + 1) cap') Ls' ∧ L' = Ls' ++ R) := by
  rcases ho with ⟨h0, _, hv, rfl⟩ | ⟨b, cap', sp, hv, h1, h2, h3, rfl⟩
  · obtain rfl : vs = [] := List.length_eq_zero_iff.1 h0
    obtain ⟨rfl, rfl⟩ : av = none ∧ cap = 0 := by simpa using hv
    obtain rfl : i = 0 := by simpa using hi
    exact Fn.mono (C_Insert_nil (L := R) (Rd.mem hbs)) fun v L' ⟨av', cap', Ls', h4, h5, h6⟩ => ⟨av', cap', Ls', h4, h4 ▸ h5, h6⟩
  · obtain ⟨rfl, rfl⟩ : av = some ⟨b, 0, none⟩ ∧ cap = cap' := by simpa using hv
    refine Fn.nd fun hnd => ?_
    have hne : bs ≠ b := by
      rintro rfl
      simp only [List.singleton_append, List.map_cons, List.nodup_cons] at hnd
      exact hnd.1 (List.mem_map.2 ⟨_, hbs, rfl⟩)
    exact Fn.mono (C_Insert_own (L := R) h1 h2 hi hlt hne (Rd.mem hbs)) fun v L' ⟨av', cap', Ls', h4, h5, h6⟩ => ⟨av', cap', Ls', h4, h4 ▸ h5, h6⟩

set_option maxRecDepth 100000 in
set_option maxHeartbeats 2000000 in
theorem C_Put_own {c : Cx} {L : List Pt} {cb cap : Nat} {av : Option Addr} {vs : List Version} {x : Version} {Ls : List Pt} (ho : OwnSl 242 4 (rows Version_enc vs) vs.length (.slice av vs.length cap) Ls) (hs : Sorted vs) (h50 : vs.length ≤ 50) (hC : ChAt c ((cb, .cells #[.slice av vs.length cap] 300 (0, 0)) :: (Ls ++ L)) cb vs) : Fn Tryz.prog 173 #[.pointer (some ⟨cb, 0, none⟩), .agg (Version_enc x)] c ((cb, .cells #[.slice av vs.length cap] 300 (0, 0)) :: (Ls ++ L)) (fun v L' => v = .int .i64 (putE vs x) ∧ ∃ G', One cb (afterPut vs x) G' ∧ L' = G' ++ L) := by
  refine Fn.enter Tryz.func173 rfl 53 rfl rfl (fun R hR => ?_)
  refine Cd.seq (fun K1 hK1 => ?_)
  refine Cd.region [0, 1] rfl ?_
  refine Seq.op at0 rfl (Op.new rfl (O.box (v := .agg _) rfl (cs := (Version_enc x)) rfl) ?_)
  intro b2 hb2
  refine Seq.rd0 at1 rfl rfl (O.assign (v := .int .i64 _) rfl) ?_
  refine Seq.nil ?_
  refine hK1 ?_
  refine Cd.seq (fun K3 hK3 => ?_)
  refine Cd.seq (fun K4 hK4 => ?_)
  refine Cd.region [0, 1, 2, 3, 4, 5, 6, 7, 8, 9, 10, 11, 12, 13, 14, 15, 16, 17, 18] rfl ?_
  refine Seq.rd0 at0 rfl rfl (O.field fo_242_0 rfl) ?_
  refine Seq.rd1 at1 rfl rfl (O.loadA kd_24 rfl (Nat.le_of_ble_eq_true rfl) (Version_stamp _)) Rd.head ?_
  refine Seq.op at2 rfl (Op.callF rfl hb_98 C_stamp_Good rfl ?_)
  rintro _ _ ⟨rfl, rfl⟩
  refine Seq.rd0 at3 rfl rfl (O.not rfl) ?_
  refine Seq.rd0 at4 rfl rfl (O.move (v := .bool _) rfl) ?_
  cases t5 : decide (x.stamp).good
  · skip
    refine Seq.pass at5 rfl rfl ?_
    refine Seq.pass at6 rfl rfl ?_
    refine Seq.pass at7 rfl rfl ?_
    refine Seq.pass at8 rfl rfl ?_
    refine Seq.rd0 at9 rfl rfl (O.pickT (v := .bool _) rfl rfl) ?_
    refine Seq.rd0 at10 rfl rfl (O.move (v := .bool _) rfl) ?_
    refine Seq.pass at11 rfl rfl ?_
    refine Seq.pass at12 rfl rfl ?_
    refine Seq.pass at13 rfl rfl ?_
    refine Seq.pass at14 rfl rfl ?_
    refine Seq.pass at15 rfl rfl ?_
    refine Seq.pass at16 rfl rfl ?_
    refine Seq.pass at17 rfl rfl ?_
    refine Seq.rd0 at18 rfl rfl (O.pickT (v := .bool _) rfl rfl) ?_
    refine Seq.nil ?_
    refine hK4 ?_
    refine Cd.condT rfl ?_
    refine Cd.seq (fun K6 hK6 => ?_)
    refine Cd.region [0] rfl ?_
    refine Seq.rd0 at0 rfl rfl (O.assign (v := .int .i64 _) rfl) ?_
    refine Seq.nil ?_
    refine hK6 ?_
    refine Cd.ret ?_
    have hbad : ¬ x.stamp.good ∨ 200 < (x.val.size : Int) ∨ (x.gone = true ∧ ¬ x.val = ⟨#[]⟩) := by first | (left; assumption) | (left; simp_all; done) | (right; left; assumption) | (right; right; exact ⟨by assumption, by assumption⟩)
    have hpe : putE vs x = 1 := by unfold putE; rw [if_pos hbad]
    have hone : One cb (afterPut vs x) ((cb, .cells #[.slice av vs.length cap] 300 (0, 0)) :: Ls) := by
      have h2 : afterPut vs x = vs := by unfold afterPut; rw [if_neg (by omega)]
      rw [h2]; exact ⟨av, cap, Ls, rfl, ho, hs, h50⟩
    exact hR _ _ (Res.one (v := .int .i64 _) rfl rfl) ⟨by rw [hpe], _, hone, rfl⟩ (.cons _ (.refl _))
  · skip
    refine Seq.rd0 at5 rfl rfl (O.field fo_242_1 rfl) ?_
    refine Seq.rd1 at6 rfl rfl (O.load kd_9 rfl (Version_val _)) Rd.head ?_
    refine Seq.rd0 at7 rfl rfl (O.lenT ds_9 rfl) ?_
    refine Seq.rd0 at8 rfl rfl (O.gtr rfl rfl) ?_
    refine Seq.rd0 at9 rfl rfl (O.pickF (v := .bool _) rfl rfl) ?_
    refine Seq.rd0 at10 rfl rfl (O.move (v := .bool _) rfl) ?_
    by_cases t7 : (200 : Int) < (x.val.size : Int)
    · rw [decide_eq_true t7]
      refine Seq.pass at11 rfl rfl ?_
      refine Seq.pass at12 rfl rfl ?_
      refine Seq.pass at13 rfl rfl ?_
      refine Seq.pass at14 rfl rfl ?_
      refine Seq.pass at15 rfl rfl ?_
      refine Seq.pass at16 rfl rfl ?_
      refine Seq.pass at17 rfl rfl ?_
      refine Seq.rd0 at18 rfl rfl (O.pickT (v := .bool _) rfl rfl) ?_
      refine Seq.nil ?_
      refine hK4 ?_
      refine Cd.condT rfl ?_
      refine Cd.seq (fun K8 hK8 => ?_)
      refine Cd.region [0] rfl ?_
      refine Seq.rd0 at0 rfl rfl (O.assign (v := .int .i64 _) rfl) ?_
      refine Seq.nil ?_
      refine hK8 ?_
      refine Cd.ret ?_
      have hbad : ¬ x.stamp.good ∨ 200 < (x.val.size : Int) ∨ (x.gone = true ∧ ¬ x.val = ⟨#[]⟩) := by first | (left; assumption) | (left; simp_all; done) | (right; left; assumption) | (right; right; exact ⟨by assumption, by assumption⟩)
      have hpe : putE vs x = 1 := by unfold putE; rw [if_pos hbad]
      have hone : One cb (afterPut vs x) ((cb, .cells #[.slice av vs.length cap] 300 (0, 0)) :: Ls) := by
        have h2 : afterPut vs x = vs := by unfold afterPut; rw [if_neg (by omega)]
        rw [h2]; exact ⟨av, cap, Ls, rfl, ho, hs, h50⟩
      exact hR _ _ (Res.one (v := .int .i64 _) rfl rfl) ⟨by rw [hpe], _, hone, rfl⟩ (.cons _ (.refl _))
    · rw [decide_eq_false t7]
      refine Seq.rd0 at11 rfl rfl (O.field fo_242_2 rfl) ?_
      refine Seq.rd1 at12 rfl rfl (O.load kd_4 rfl (Version_gone _)) Rd.head ?_
      refine Seq.rd0 at13 rfl rfl (O.move (v := .bool _) rfl) ?_
      cases t9 : x.gone
      · skip
        refine Seq.pass at14 rfl rfl ?_
        refine Seq.pass at15 rfl rfl ?_
        refine Seq.pass at16 rfl rfl ?_
        refine Seq.rd0 at17 rfl rfl (O.pickF (v := .bool _) rfl rfl) ?_
        refine Seq.rd0 at18 rfl rfl (O.pickF (v := .bool _) rfl rfl) ?_
        refine Seq.nil ?_
        refine hK4 ?_
        refine Cd.condF rfl ?_
        refine Cd.skip ?_
        refine hK3 ?_
        refine Cd.seq (fun K10 hK10 => ?_)
        refine Cd.region [0, 1, 2, 3, 4, 5, 6, 7, 8] rfl ?_
        refine Seq.rd0 at0 rfl rfl (O.move (v := .pointer _) rfl) ?_
        refine Seq.rd0 at1 rfl rfl (O.field fo_242_0 rfl) ?_
        refine Seq.rd1 at2 rfl rfl (O.loadA kd_24 rfl (Nat.le_of_ble_eq_true rfl) (Version_stamp _)) Rd.head ?_
        refine Seq.op at3 rfl (Op.callF rfl hb_223 (C_place hs (by omega) (hC.cons)) rfl ?_)
        rintro _ _ ⟨rfl, rfl⟩
        refine Seq.rd0 at4 rfl rfl (O.move (v := .tuple _) rfl) ?_
        refine Seq.rd0 at5 rfl rfl (O.ext rfl r2_0) ?_
        refine Seq.rd0 at6 rfl rfl (O.ext rfl r2_1) ?_
        refine Seq.rd0 at7 rfl rfl (O.assign (v := .int .i64 _) rfl) ?_
        refine Seq.rd0 at8 rfl rfl (O.assign (v := .bool _) rfl) ?_
        refine Seq.nil ?_
        refine hK10 ?_
        refine Cd.seq (fun K11 hK11 => ?_)
        refine Cd.block ?_
        refine Cd.seq (fun K12 hK12 => ?_)
        refine Cd.region [0, 1] rfl ?_
        refine Seq.rd0 at0 rfl rfl (O.move (v := .bool _) rfl) ?_
        refine Seq.rd0 at1 rfl rfl (O.assign (v := .bool _) rfl) ?_
        refine Seq.nil ?_
        refine hK12 ?_
        refine Cd.cond ((hasS vs x.stamp)) rfl (fun t13 => ?_) (fun t13 => ?_)
        · skip
          refine Cd.seq (fun K14 hK14 => ?_)
          refine Cd.region [0] rfl ?_
          refine Seq.rd0 at0 rfl rfl (O.assign (v := .int .i64 _) rfl) ?_
          refine Seq.nil ?_
          refine hK14 ?_
          refine Cd.ret ?_
          have hok1 : ¬ (¬ x.stamp.good ∨ 200 < (x.val.size : Int) ∨ (x.gone = true ∧ ¬ x.val = ⟨#[]⟩)) := by rintro (h | h | ⟨h, h9⟩) <;> first | (simp_all; done) | omega
          have hpe : putE vs x = 5 := by unfold putE; rw [if_neg hok1, if_pos (by assumption)]
          have hone : One cb (afterPut vs x) ((cb, .cells #[.slice av vs.length cap] 300 (0, 0)) :: Ls) := by
            have h2 : afterPut vs x = vs := by unfold afterPut; rw [if_neg (by omega)]
            rw [h2]; exact ⟨av, cap, Ls, rfl, ho, hs, h50⟩
          exact hR _ _ (Res.one (v := .int .i64 _) rfl rfl) ⟨by rw [hpe], _, hone, rfl⟩ (.cons _ (.refl _))
        · skip
          refine Cd.seq (fun K15 hK15 => ?_)
          refine Cd.region [0, 1, 2, 3, 4, 5, 6] rfl ?_
          refine Seq.rd0 at0 rfl rfl (O.move (v := .pointer _) rfl) ?_
          refine Seq.rd0 at1 rfl rfl (O.nilP rfl) ?_
          refine Seq.rd0 at2 rfl rfl (O.field fo_300_0 rfl) ?_
          refine Seq.rd1 at3 rfl rfl (O.load kd_239 rfl r1_0) Rd.head.cons ?_
          refine Seq.rd0 at4 rfl rfl (O.lenS ds_239 rfl) ?_
          refine Seq.rd0 at5 rfl rfl (O.geq rfl rfl) ?_
          refine Seq.rd0 at6 rfl rfl (O.assign (v := .bool _) rfl) ?_
          refine Seq.nil ?_
          refine hK15 ?_
          refine Cd.if ((50 : Int) ≤ (vs.length : Int)) rfl (fun t16 => ?_) (fun t16 => ?_)
          · skip
            refine Cd.seq (fun K17 hK17 => ?_)
            refine Cd.region [0] rfl ?_
            refine Seq.rd0 at0 rfl rfl (O.assign (v := .int .i64 _) rfl) ?_
            refine Seq.nil ?_
            refine hK17 ?_
            refine Cd.ret ?_
            have hok1 : ¬ (¬ x.stamp.good ∨ 200 < (x.val.size : Int) ∨ (x.gone = true ∧ ¬ x.val = ⟨#[]⟩)) := by rintro (h | h | ⟨h, h9⟩) <;> first | (simp_all; done) | omega
            have hpe : putE vs x = 6 := by unfold putE; rw [if_neg hok1, if_neg (by simp_all), if_pos (by omega)]
            have hone : One cb (afterPut vs x) ((cb, .cells #[.slice av vs.length cap] 300 (0, 0)) :: Ls) := by
              have h2 : afterPut vs x = vs := by unfold afterPut; rw [if_neg (by omega)]
              rw [h2]; exact ⟨av, cap, Ls, rfl, ho, hs, h50⟩
            exact hR _ _ (Res.one (v := .int .i64 _) rfl rfl) ⟨by rw [hpe], _, hone, rfl⟩ (.cons _ (.refl _))
          · skip
            refine Cd.skip ?_
            refine hK11 ?_
            refine Cd.seq (fun K18 hK18 => ?_)
            refine Cd.draw 12 rfl po ?_
            refine Any.rd0 0 at0 rfl rfl (O.move (v := .pointer _) rfl) (by kernel_rfl) (by kernel_rfl) (by kernel_rfl) ?_
            refine Any.rd0 1 at1 rfl rfl (O.move (v := .pointer _) rfl) (by kernel_rfl) (by kernel_rfl) (by kernel_rfl) ?_
            refine Any.rd0 2 at2 rfl rfl (O.nilP rfl) (by kernel_rfl) (by kernel_rfl) (by kernel_rfl) ?_
            refine Any.rd0 3 at3 rfl rfl (O.field fo_300_0 rfl) (by kernel_rfl) (by kernel_rfl) (by kernel_rfl) ?_
            refine Any.rd0 5 at5 rfl rfl (O.move (v := .int .i64 _) rfl) (by kernel_rfl) (by kernel_rfl) (by kernel_rfl) ?_
            refine Any.rd1 6 at6 rfl rfl (O.loadA kd_242 rfl (Nat.le_of_ble_eq_true rfl) (Version_all _)) Rd.head (by kernel_rfl) (by kernel_rfl) (by kernel_rfl) ?_
            refine Any.two 4 7 at4 at7 rfl rfl (by kernel_rfl) ⟨trivial, Rd.head⟩ ?_ ?_
            · skip
              refine Op.rd1 rfl (O.load kd_239 rfl r1_0) Rd.head.cons ?_
              refine Any.toK ?_
              refine Any.one 7 at7 rfl (by kernel_rfl) ⟨trivial, Rd.head⟩ ?_
              refine Op.new rfl (O.buildSlice (el := 242) rfl (cs := (rows Version_enc [x])) (by kernel_rfl)) ?_
              intro b19 hb19
              refine Any.toK ?_
              refine Any.one 8 at8 rfl (by kernel_rfl) ⟨trivial, Rd.head.cons⟩ ?_
              refine Op.callF rfl hb_224 (Fn.perm (C_Insert (R := [(b19, _), (b2, _), (cb, _)] ++ L) ho (below_le vs x.stamp) (by omega) List.mem_cons_self) (bring (pre := [(b19, _), (b2, _), (cb, _)]))) rfl ?_
              rintro _ _ ⟨av2, cap2, Ls2, rfl, ho2, rfl⟩
              refine Ent.perm ?_ (bring (Ls := Ls2) (pre := [(b19, _), (b2, _), (cb, _)]) (R := L)).symm
              refine Any.toK ?_
              refine Any.rd0 9 at9 rfl rfl (O.nilP rfl) (by kernel_rfl) (by kernel_rfl) (by kernel_rfl) ?_
              refine Any.rd0 10 at10 rfl rfl (O.field fo_300_0 rfl) (by kernel_rfl) (by kernel_rfl) (by kernel_rfl) ?_
              refine Any.one 11 at11 rfl (by kernel_rfl) ⟨trivial, Rd.head.cons⟩ ?_
              refine Op.set2 rfl (O.store1 kd_239 rfl (v := .slice _ _ _) rfl (Nat.le_of_ble_eq_true rfl) rfl (cs' := #[.slice av2 (vs.length + 1) cap2]) rfl) ?_
              refine Any.toK ?_
              refine Any.done (by kernel_rfl) ⟨trivial, Rd.head.cons⟩ ?_
              refine hK18 ?_
              refine Cd.seq (fun K20 hK20 => ?_)
              refine Cd.region [0] rfl ?_
              refine Seq.rd0 at0 rfl rfl (O.assign (v := .int .i64 _) rfl) ?_
              refine Seq.nil ?_
              refine hK20 ?_
              refine Cd.ret ?_
              have hok1 : ¬ (¬ x.stamp.good ∨ 200 < (x.val.size : Int) ∨ (x.gone = true ∧ ¬ x.val = ⟨#[]⟩)) := by rintro (h | h | ⟨h, h9⟩) <;> first | (simp_all; done) | omega
              have hpe : putE vs x = 0 := by unfold putE; rw [if_neg hok1, if_neg (by simp_all), if_neg (by omega)]
              have hone : One cb (afterPut vs x) ((cb, .cells #[.slice av2 (vs.length + 1) cap2] 300 (0, 0)) :: Ls2) := by
                have h1 : hasS vs x.stamp = false := by simp_all
                have h2 : afterPut vs x = putV vs x := by unfold afterPut; rw [if_pos hpe]
                rw [h2]
                exact ⟨av2, cap2, Ls2, by rw [putV_length], by rw [putV_length]; exact ho2, putV_sorted hs h1, by rw [putV_length]; omega⟩
              exact hR _ _ (Res.one (v := .int .i64 _) rfl rfl) ⟨by rw [hpe], _, hone, rfl⟩ (.cons _ (.cons _ (.refl _)))
            · skip
              refine Op.new rfl (O.buildSlice (el := 242) rfl (cs := (rows Version_enc [x])) (by kernel_rfl)) ?_
              intro b21 hb21
              refine Any.toK ?_
              refine Any.one 4 at4 rfl (by kernel_rfl) ⟨trivial, Rd.head.cons⟩ ?_
              refine Op.rd1 rfl (O.load kd_239 rfl r1_0) Rd.head.cons.cons ?_
              refine Any.toK ?_
              refine Any.one 8 at8 rfl (by kernel_rfl) ⟨trivial, Rd.head.cons⟩ ?_
              refine Op.callF rfl hb_224 (Fn.perm (C_Insert (R := [(b21, _), (b2, _), (cb, _)] ++ L) ho (below_le vs x.stamp) (by omega) List.mem_cons_self) (bring (pre := [(b21, _), (b2, _), (cb, _)]))) rfl ?_
              rintro _ _ ⟨av2, cap2, Ls2, rfl, ho2, rfl⟩
              refine Ent.perm ?_ (bring (Ls := Ls2) (pre := [(b21, _), (b2, _), (cb, _)]) (R := L)).symm
              refine Any.toK ?_
              refine Any.rd0 9 at9 rfl rfl (O.nilP rfl) (by kernel_rfl) (by kernel_rfl) (by kernel_rfl) ?_
              refine Any.rd0 10 at10 rfl rfl (O.field fo_300_0 rfl) (by kernel_rfl) (by kernel_rfl) (by kernel_rfl) ?_
              refine Any.one 11 at11 rfl (by kernel_rfl) ⟨trivial, Rd.head.cons⟩ ?_
              refine Op.set2 rfl (O.store1 kd_239 rfl (v := .slice _ _ _) rfl (Nat.le_of_ble_eq_true rfl) rfl (cs' := #[.slice av2 (vs.length + 1) cap2]) rfl) ?_
              refine Any.toK ?_
              refine Any.done (by kernel_rfl) ⟨trivial, Rd.head.cons⟩ ?_
              refine hK18 ?_
              refine Cd.seq (fun K22 hK22 => ?_)
              refine Cd.region [0] rfl ?_
              refine Seq.rd0 at0 rfl rfl (O.assign (v := .int .i64 _) rfl) ?_
              refine Seq.nil ?_
              refine hK22 ?_
              refine Cd.ret ?_
              have hok1 : ¬ (¬ x.stamp.good ∨ 200 < (x.val.size : Int) ∨ (x.gone = true ∧ ¬ x.val = ⟨#[]⟩)) := by rintro (h | h | ⟨h, h9⟩) <;> first | (simp_all; done) | omega
              have hpe : putE vs x = 0 := by unfold putE; rw [if_neg hok1, if_neg (by simp_all), if_neg (by omega)]
              have hone : One cb (afterPut vs x) ((cb, .cells #[.slice av2 (vs.length + 1) cap2] 300 (0, 0)) :: Ls2) := by
                have h1 : hasS vs x.stamp = false := by simp_all
                have h2 : afterPut vs x = putV vs x := by unfold afterPut; rw [if_pos hpe]
                rw [h2]
                exact ⟨av2, cap2, Ls2, by rw [putV_length], by rw [putV_length]; exact ho2, putV_sorted hs h1, by rw [putV_length]; omega⟩
              exact hR _ _ (Res.one (v := .int .i64 _) rfl rfl) ⟨by rw [hpe], _, hone, rfl⟩ (.cons _ (.cons _ (.refl _)))
      · skip
        refine Seq.rd0 at14 rfl rfl (O.field fo_242_1 rfl) ?_
        refine Seq.rd1 at15 rfl rfl (O.load kd_9 rfl (Version_val _)) Rd.head ?_
        refine Seq.rd0 at16 rfl rfl (O.neS rfl rfl) ?_
        refine Seq.rd0 at17 rfl rfl (O.pickT (v := .bool _) rfl rfl) ?_
        refine Seq.rd0 at18 rfl rfl (O.pickF (v := .bool _) rfl rfl) ?_
        refine Seq.nil ?_
        refine hK4 ?_
        refine Cd.ifn (x.val = ⟨#[]⟩) rfl (fun t23 => ?_) (fun t23 => ?_)
        · skip
          refine Cd.seq (fun K24 hK24 => ?_)
          refine Cd.region [0] rfl ?_
          refine Seq.rd0 at0 rfl rfl (O.assign (v := .int .i64 _) rfl) ?_
          refine Seq.nil ?_
          refine hK24 ?_
          refine Cd.ret ?_
          have hbad : ¬ x.stamp.good ∨ 200 < (x.val.size : Int) ∨ (x.gone = true ∧ ¬ x.val = ⟨#[]⟩) := by first | (left; assumption) | (left; simp_all; done) | (right; left; assumption) | (right; right; exact ⟨by assumption, by assumption⟩)
          have hpe : putE vs x = 1 := by unfold putE; rw [if_pos hbad]
          have hone : One cb (afterPut vs x) ((cb, .cells #[.slice av vs.length cap] 300 (0, 0)) :: Ls) := by
            have h2 : afterPut vs x = vs := by unfold afterPut; rw [if_neg (by omega)]
            rw [h2]; exact ⟨av, cap, Ls, rfl, ho, hs, h50⟩
          exact hR _ _ (Res.one (v := .int .i64 _) rfl rfl) ⟨by rw [hpe], _, hone, rfl⟩ (.cons _ (.refl _))
        · skip
          refine Cd.skip ?_
          refine hK3 ?_
          refine Cd.seq (fun K25 hK25 => ?_)
          refine Cd.region [0, 1, 2, 3, 4, 5, 6, 7, 8] rfl ?_
          refine Seq.rd0 at0 rfl rfl (O.move (v := .pointer _) rfl) ?_
          refine Seq.rd0 at1 rfl rfl (O.field fo_242_0 rfl) ?_
          refine Seq.rd1 at2 rfl rfl (O.loadA kd_24 rfl (Nat.le_of_ble_eq_true rfl) (Version_stamp _)) Rd.head ?_
          refine Seq.op at3 rfl (Op.callF rfl hb_223 (C_place hs (by omega) (hC.cons)) rfl ?_)
          rintro _ _ ⟨rfl, rfl⟩
          refine Seq.rd0 at4 rfl rfl (O.move (v := .tuple _) rfl) ?_
          refine Seq.rd0 at5 rfl rfl (O.ext rfl r2_0) ?_
          refine Seq.rd0 at6 rfl rfl (O.ext rfl r2_1) ?_
          refine Seq.rd0 at7 rfl rfl (O.assign (v := .int .i64 _) rfl) ?_
          refine Seq.rd0 at8 rfl rfl (O.assign (v := .bool _) rfl) ?_
          refine Seq.nil ?_
          refine hK25 ?_
          refine Cd.seq (fun K26 hK26 => ?_)
          refine Cd.block ?_
          refine Cd.seq (fun K27 hK27 => ?_)
          refine Cd.region [0, 1] rfl ?_
          refine Seq.rd0 at0 rfl rfl (O.move (v := .bool _) rfl) ?_
          refine Seq.rd0 at1 rfl rfl (O.assign (v := .bool _) rfl) ?_
          refine Seq.nil ?_
          refine hK27 ?_
          refine Cd.cond ((hasS vs x.stamp)) rfl (fun t28 => ?_) (fun t28 => ?_)
          · skip
            refine Cd.seq (fun K29 hK29 => ?_)
            refine Cd.region [0] rfl ?_
            refine Seq.rd0 at0 rfl rfl (O.assign (v := .int .i64 _) rfl) ?_
            refine Seq.nil ?_
            refine hK29 ?_
            refine Cd.ret ?_
            have hok1 : ¬ (¬ x.stamp.good ∨ 200 < (x.val.size : Int) ∨ (x.gone = true ∧ ¬ x.val = ⟨#[]⟩)) := by rintro (h | h | ⟨h, h9⟩) <;> first | (simp_all; done) | omega
            have hpe : putE vs x = 5 := by unfold putE; rw [if_neg hok1, if_pos (by assumption)]
            have hone : One cb (afterPut vs x) ((cb, .cells #[.slice av vs.length cap] 300 (0, 0)) :: Ls) := by
              have h2 : afterPut vs x = vs := by unfold afterPut; rw [if_neg (by omega)]
              rw [h2]; exact ⟨av, cap, Ls, rfl, ho, hs, h50⟩
            exact hR _ _ (Res.one (v := .int .i64 _) rfl rfl) ⟨by rw [hpe], _, hone, rfl⟩ (.cons _ (.refl _))
          · skip
            refine Cd.seq (fun K30 hK30 => ?_)
            refine Cd.region [0, 1, 2, 3, 4, 5, 6] rfl ?_
            refine Seq.rd0 at0 rfl rfl (O.move (v := .pointer _) rfl) ?_
            refine Seq.rd0 at1 rfl rfl (O.nilP rfl) ?_
            refine Seq.rd0 at2 rfl rfl (O.field fo_300_0 rfl) ?_
            refine Seq.rd1 at3 rfl rfl (O.load kd_239 rfl r1_0) Rd.head.cons ?_
            refine Seq.rd0 at4 rfl rfl (O.lenS ds_239 rfl) ?_
            refine Seq.rd0 at5 rfl rfl (O.geq rfl rfl) ?_
            refine Seq.rd0 at6 rfl rfl (O.assign (v := .bool _) rfl) ?_
            refine Seq.nil ?_
            refine hK30 ?_
            refine Cd.if ((50 : Int) ≤ (vs.length : Int)) rfl (fun t31 => ?_) (fun t31 => ?_)
            · skip
              refine Cd.seq (fun K32 hK32 => ?_)
              refine Cd.region [0] rfl ?_
              refine Seq.rd0 at0 rfl rfl (O.assign (v := .int .i64 _) rfl) ?_
              refine Seq.nil ?_
              refine hK32 ?_
              refine Cd.ret ?_
              have hok1 : ¬ (¬ x.stamp.good ∨ 200 < (x.val.size : Int) ∨ (x.gone = true ∧ ¬ x.val = ⟨#[]⟩)) := by rintro (h | h | ⟨h, h9⟩) <;> first | (simp_all; done) | omega
              have hpe : putE vs x = 6 := by unfold putE; rw [if_neg hok1, if_neg (by simp_all), if_pos (by omega)]
              have hone : One cb (afterPut vs x) ((cb, .cells #[.slice av vs.length cap] 300 (0, 0)) :: Ls) := by
                have h2 : afterPut vs x = vs := by unfold afterPut; rw [if_neg (by omega)]
                rw [h2]; exact ⟨av, cap, Ls, rfl, ho, hs, h50⟩
              exact hR _ _ (Res.one (v := .int .i64 _) rfl rfl) ⟨by rw [hpe], _, hone, rfl⟩ (.cons _ (.refl _))
            · skip
              refine Cd.skip ?_
              refine hK26 ?_
              refine Cd.seq (fun K33 hK33 => ?_)
              refine Cd.draw 12 rfl po ?_
              refine Any.rd0 0 at0 rfl rfl (O.move (v := .pointer _) rfl) (by kernel_rfl) (by kernel_rfl) (by kernel_rfl) ?_
              refine Any.rd0 1 at1 rfl rfl (O.move (v := .pointer _) rfl) (by kernel_rfl) (by kernel_rfl) (by kernel_rfl) ?_
              refine Any.rd0 2 at2 rfl rfl (O.nilP rfl) (by kernel_rfl) (by kernel_rfl) (by kernel_rfl) ?_
              refine Any.rd0 3 at3 rfl rfl (O.field fo_300_0 rfl) (by kernel_rfl) (by kernel_rfl) (by kernel_rfl) ?_
              refine Any.rd0 5 at5 rfl rfl (O.move (v := .int .i64 _) rfl) (by kernel_rfl) (by kernel_rfl) (by kernel_rfl) ?_
              refine Any.rd1 6 at6 rfl rfl (O.loadA kd_242 rfl (Nat.le_of_ble_eq_true rfl) (Version_all _)) Rd.head (by kernel_rfl) (by kernel_rfl) (by kernel_rfl) ?_
              refine Any.two 4 7 at4 at7 rfl rfl (by kernel_rfl) ⟨trivial, Rd.head⟩ ?_ ?_
              · skip
                refine Op.rd1 rfl (O.load kd_239 rfl r1_0) Rd.head.cons ?_
                refine Any.toK ?_
                refine Any.one 7 at7 rfl (by kernel_rfl) ⟨trivial, Rd.head⟩ ?_
                refine Op.new rfl (O.buildSlice (el := 242) rfl (cs := (rows Version_enc [x])) (by kernel_rfl)) ?_
                intro b34 hb34
                refine Any.toK ?_
                refine Any.one 8 at8 rfl (by kernel_rfl) ⟨trivial, Rd.head.cons⟩ ?_
                refine Op.callF rfl hb_224 (Fn.perm (C_Insert (R := [(b34, _), (b2, _), (cb, _)] ++ L) ho (below_le vs x.stamp) (by omega) List.mem_cons_self) (bring (pre := [(b34, _), (b2, _), (cb, _)]))) rfl ?_
                rintro _ _ ⟨av2, cap2, Ls2, rfl, ho2, rfl⟩
                refine Ent.perm ?_ (bring (Ls := Ls2) (pre := [(b34, _), (b2, _), (cb, _)]) (R := L)).symm
                refine Any.toK ?_
                refine Any.rd0 9 at9 rfl rfl (O.nilP rfl) (by kernel_rfl) (by kernel_rfl) (by kernel_rfl) ?_
                refine Any.rd0 10 at10 rfl rfl (O.field fo_300_0 rfl) (by kernel_rfl) (by kernel_rfl) (by kernel_rfl) ?_
                refine Any.one 11 at11 rfl (by kernel_rfl) ⟨trivial, Rd.head.cons⟩ ?_
                refine Op.set2 rfl (O.store1 kd_239 rfl (v := .slice _ _ _) rfl (Nat.le_of_ble_eq_true rfl) rfl (cs' := #[.slice av2 (vs.length + 1) cap2]) rfl) ?_
                refine Any.toK ?_
                refine Any.done (by kernel_rfl) ⟨trivial, Rd.head.cons⟩ ?_
                refine hK33 ?_
                refine Cd.seq (fun K35 hK35 => ?_)
                refine Cd.region [0] rfl ?_
                refine Seq.rd0 at0 rfl rfl (O.assign (v := .int .i64 _) rfl) ?_
                refine Seq.nil ?_
                refine hK35 ?_
                refine Cd.ret ?_
                have hok1 : ¬ (¬ x.stamp.good ∨ 200 < (x.val.size : Int) ∨ (x.gone = true ∧ ¬ x.val = ⟨#[]⟩)) := by rintro (h | h | ⟨h, h9⟩) <;> first | (simp_all; done) | omega
                have hpe : putE vs x = 0 := by unfold putE; rw [if_neg hok1, if_neg (by simp_all), if_neg (by omega)]
                have hone : One cb (afterPut vs x) ((cb, .cells #[.slice av2 (vs.length + 1) cap2] 300 (0, 0)) :: Ls2) := by
                  have h1 : hasS vs x.stamp = false := by simp_all
                  have h2 : afterPut vs x = putV vs x := by unfold afterPut; rw [if_pos hpe]
                  rw [h2]
                  exact ⟨av2, cap2, Ls2, by rw [putV_length], by rw [putV_length]; exact ho2, putV_sorted hs h1, by rw [putV_length]; omega⟩
                exact hR _ _ (Res.one (v := .int .i64 _) rfl rfl) ⟨by rw [hpe], _, hone, rfl⟩ (.cons _ (.cons _ (.refl _)))
              · skip
                refine Op.new rfl (O.buildSlice (el := 242) rfl (cs := (rows Version_enc [x])) (by kernel_rfl)) ?_
                intro b36 hb36
                refine Any.toK ?_
                refine Any.one 4 at4 rfl (by kernel_rfl) ⟨trivial, Rd.head.cons⟩ ?_
                refine Op.rd1 rfl (O.load kd_239 rfl r1_0) Rd.head.cons.cons ?_
                refine Any.toK ?_
                refine Any.one 8 at8 rfl (by kernel_rfl) ⟨trivial, Rd.head.cons⟩ ?_
                refine Op.callF rfl hb_224 (Fn.perm (C_Insert (R := [(b36, _), (b2, _), (cb, _)] ++ L) ho (below_le vs x.stamp) (by omega) List.mem_cons_self) (bring (pre := [(b36, _), (b2, _), (cb, _)]))) rfl ?_
                rintro _ _ ⟨av2, cap2, Ls2, rfl, ho2, rfl⟩
                refine Ent.perm ?_ (bring (Ls := Ls2) (pre := [(b36, _), (b2, _), (cb, _)]) (R := L)).symm
                refine Any.toK ?_
                refine Any.rd0 9 at9 rfl rfl (O.nilP rfl) (by kernel_rfl) (by kernel_rfl) (by kernel_rfl) ?_
                refine Any.rd0 10 at10 rfl rfl (O.field fo_300_0 rfl) (by kernel_rfl) (by kernel_rfl) (by kernel_rfl) ?_
                refine Any.one 11 at11 rfl (by kernel_rfl) ⟨trivial, Rd.head.cons⟩ ?_
                refine Op.set2 rfl (O.store1 kd_239 rfl (v := .slice _ _ _) rfl (Nat.le_of_ble_eq_true rfl) rfl (cs' := #[.slice av2 (vs.length + 1) cap2]) rfl) ?_
                refine Any.toK ?_
                refine Any.done (by kernel_rfl) ⟨trivial, Rd.head.cons⟩ ?_
                refine hK33 ?_
                refine Cd.seq (fun K37 hK37 => ?_)
                refine Cd.region [0] rfl ?_
                refine Seq.rd0 at0 rfl rfl (O.assign (v := .int .i64 _) rfl) ?_
                refine Seq.nil ?_
                refine hK37 ?_
                refine Cd.ret ?_
                have hok1 : ¬ (¬ x.stamp.good ∨ 200 < (x.val.size : Int) ∨ (x.gone = true ∧ ¬ x.val = ⟨#[]⟩)) := by rintro (h | h | ⟨h, h9⟩) <;> first | (simp_all; done) | omega
                have hpe : putE vs x = 0 := by unfold putE; rw [if_neg hok1, if_neg (by simp_all), if_neg (by omega)]
                have hone : One cb (afterPut vs x) ((cb, .cells #[.slice av2 (vs.length + 1) cap2] 300 (0, 0)) :: Ls2) := by
                  have h1 : hasS vs x.stamp = false := by simp_all
                  have h2 : afterPut vs x = putV vs x := by unfold afterPut; rw [if_pos hpe]
                  rw [h2]
                  exact ⟨av2, cap2, Ls2, by rw [putV_length], by rw [putV_length]; exact ho2, putV_sorted hs h1, by rw [putV_length]; omega⟩
                exact hR _ _ (Res.one (v := .int .i64 _) rfl rfl) ⟨by rw [hpe], _, hone, rfl⟩ (.cons _ (.cons _ (.refl _)))

theorem C_Put {c : Cx} {R G : List Pt} {cb : Nat} {vs : List Version} {x : Version} (hO : One cb vs G) :
    Fn Tryz.prog 173 #[.pointer (some ⟨cb, 0, none⟩), .agg (Version_enc x)] c (G ++ R) (fun v L' => v = .int .i64 (putE vs x) ∧ ∃ G', One cb (afterPut vs x) G' ∧ L' = G' ++ R) := by
  have hC := hO.ch (c := c) (R := R)
  obtain ⟨av, cap, Ls, rfl, h1, h2, h3⟩ := hO
  exact C_Put_own (L := R) h1 h2 h3 hC

end Go.X
