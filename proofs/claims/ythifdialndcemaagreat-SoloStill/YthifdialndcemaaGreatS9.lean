/- Part 9 of the proofs over this program: what its functions compute. -/
import Derived.Test.YthifdialndcemaaGreatProg
import Derived.Test.YthifdialndcemaaGreatS8
set_option linter.unusedVariables false
set_option linter.unusedSimpArgs false

namespace Go.X
open Go.Proofs
theorem hb_133 : hasBody Tryz.prog 133 = true := by kernel_rfl
/-! ## reading: get, Get -/
def withinK (k a b : Key) : Bool := decide (0 ≤ k.cmp a) && (decide (b = .zero) || decide (k.cmp b < 0))
def seeX (l : List (Key × CV)) (q : TX) (k : Key) : ByteArray × Bool := match alook q.2.2 k with
  | some w => (w.val, !w.gone)
  | none => getV l k q.2.1
def seeP (l : List (Key × CV)) (q : TX) (k : Key) : ByteArray × Bool × Int := if goodK k = true then ((seeX l q k).1, (seeX l q k).2, 0) else (⟨#[]⟩, false, 1)

set_option maxRecDepth 100000 in
set_option maxHeartbeats 2000000 in
theorem C_key_Within {c : Cx} {L : List Pt} {x y z : Key} : Fn Tryz.prog 138 #[.agg (Key_enc x), .agg (Key_enc y), .agg (Key_enc z)] c L (fun v L' => v = .bool (withinK x y z) ∧ L' = L) := by
  refine Fn.enter Tryz.func138 rfl 22 rfl rfl (fun R hR => ?_)
  refine Cd.seq (fun K1 hK1 => ?_)
  refine Cd.region [0, 1, 2, 3] rfl ?_
  refine Seq.op at0 rfl (Op.new rfl (O.box (v := .agg _) rfl (cs := (Key_enc x)) rfl) ?_)
  intro b2 hb2
  refine Seq.op at1 rfl (Op.new rfl (O.box (v := .agg _) rfl (cs := (Key_enc y)) rfl) ?_)
  intro b3 hb3
  refine Seq.op at2 rfl (Op.new rfl (O.box (v := .agg _) rfl (cs := (Key_enc z)) rfl) ?_)
  intro b4 hb4
  refine Seq.rd0 at3 rfl rfl (O.assign (v := .bool _) rfl) ?_
  refine Seq.nil ?_
  refine hK1 ?_
  refine Cd.seq (fun K5 hK5 => ?_)
  refine Cd.region [0, 1, 2, 3, 4, 5, 6, 7, 8, 9, 10, 11, 12, 13, 14, 15] rfl ?_
  refine Seq.rd1 at0 rfl rfl (O.loadA kd_45 rfl (Nat.le_of_ble_eq_true rfl) (Key_all _)) Rd.head.cons.cons ?_
  refine Seq.rd1 at1 rfl rfl (O.loadA kd_45 rfl (Nat.le_of_ble_eq_true rfl) (Key_all _)) Rd.head.cons ?_
  refine Seq.op at2 rfl (Op.callF rfl hb_101 C_key_Cmp rfl ?_)
  rintro _ _ ⟨rfl, rfl⟩
  refine Seq.rd0 at3 rfl rfl (O.geq rfl rfl) ?_
  refine Seq.rd0 at4 rfl rfl (O.move (v := .bool _) rfl) ?_
  by_cases t6 : (0 : Int) ≤ ((x).cmp y)
  · rw [decide_eq_true t6]
    refine Seq.rd1 at5 rfl rfl (O.loadA kd_45 rfl (Nat.le_of_ble_eq_true rfl) (Key_all _)) Rd.head ?_
    refine Seq.rd0 at6 rfl rfl (O.build rfl (cs := (Key_enc Key.zero)) (by kernel_rfl)) ?_
    refine Seq.rd0 at7 rfl rfl (eqKey rfl rfl) ?_
    refine Seq.rd0 at8 rfl rfl (O.move (v := .bool _) rfl) ?_
    by_cases t7 : z = Key.zero
    · rw [decide_eq_true t7]
      refine Seq.pass at9 rfl rfl ?_
      refine Seq.pass at10 rfl rfl ?_
      refine Seq.pass at11 rfl rfl ?_
      refine Seq.pass at12 rfl rfl ?_
      refine Seq.rd0 at13 rfl rfl (O.pickT (v := .bool _) rfl rfl) ?_
      refine Seq.rd0 at14 rfl rfl (O.pickT (v := .bool _) rfl rfl) ?_
      refine Seq.rd0 at15 rfl rfl (O.assign (v := .bool _) rfl) ?_
      refine Seq.nil ?_
      refine hK5 ?_
      refine Cd.ret ?_
      exact hR _ _ (Res.one (v := .bool _) rfl rfl) ⟨congrArg Value.bool (by unfold withinK; first | (simp_all; done) | (simp_all; omega)), rfl⟩ (.cons _ (.cons _ (.cons _ (.refl _))))
    · rw [decide_eq_false t7]
      refine Seq.rd1 at9 rfl rfl (O.loadA kd_45 rfl (Nat.le_of_ble_eq_true rfl) (Key_all _)) Rd.head.cons.cons ?_
      refine Seq.rd1 at10 rfl rfl (O.loadA kd_45 rfl (Nat.le_of_ble_eq_true rfl) (Key_all _)) Rd.head ?_
      refine Seq.op at11 rfl (Op.callF rfl hb_101 C_key_Cmp rfl ?_)
      rintro _ _ ⟨rfl, rfl⟩
      refine Seq.rd0 at12 rfl rfl (O.lss rfl rfl) ?_
      refine Seq.rd0 at13 rfl rfl (O.pickF (v := .bool _) rfl rfl) ?_
      refine Seq.rd0 at14 rfl rfl (O.pickT (v := .bool _) rfl rfl) ?_
      refine Seq.rd0 at15 rfl rfl (O.assign (v := .bool _) rfl) ?_
      refine Seq.nil ?_
      refine hK5 ?_
      refine Cd.ret ?_
      exact hR _ _ (Res.one (v := .bool _) rfl rfl) ⟨congrArg Value.bool (by unfold withinK; first | (simp_all; done) | (simp_all; omega)), rfl⟩ (.cons _ (.cons _ (.cons _ (.refl _))))
  · rw [decide_eq_false t6]
    refine Seq.pass at5 rfl rfl ?_
    refine Seq.pass at6 rfl rfl ?_
    refine Seq.pass at7 rfl rfl ?_
    refine Seq.pass at8 rfl rfl ?_
    refine Seq.pass at9 rfl rfl ?_
    refine Seq.pass at10 rfl rfl ?_
    refine Seq.pass at11 rfl rfl ?_
    refine Seq.pass at12 rfl rfl ?_
    refine Seq.pass at13 rfl rfl ?_
    refine Seq.rd0 at14 rfl rfl (O.pickF (v := .bool _) rfl rfl) ?_
    refine Seq.rd0 at15 rfl rfl (O.assign (v := .bool _) rfl) ?_
    refine Seq.nil ?_
    refine hK5 ?_
    refine Cd.ret ?_
    exact hR _ _ (Res.one (v := .bool _) rfl rfl) ⟨congrArg Value.bool (by unfold withinK; first | (simp_all; done) | (simp_all; omega)), rfl⟩ (.cons _ (.cons _ (.cons _ (.refl _))))

set_option maxRecDepth 100000 in
set_option maxHeartbeats 2000000 in
theorem C_solo_getx {c : Cx} {L : List Pt} {p sb lm ck : Nat} {es : Array MapEntry} {l : List (Key × CV)} {xl : List (I64 × TX)} {bg la : Int} (hp : Rd c L p (.cells #[.pointer (some ⟨sb, 0, none⟩), .map (some lm), .int .i64 bg, .int .i64 la] 203 (0, 0))) (hS : StAt c L sb l) {q : TX} {mb ck9 : Nat} {es9 : Array MapEntry} (hxr : Rd c L q.1 (.cells #[.int .i64 q.2.1.t, .int .u8 q.2.1.n, .map (some mb)] 208 (0, 0))) (hmr : Rd c L mb (.map es9 ck9)) (hMw : MapIs keyV wV es9 ck9 q.2.2) {k : Key} : Fn Tryz.prog 133 #[.pointer (some ⟨p, 0, none⟩), .pointer (some ⟨q.1, 0, none⟩), .agg (Key_enc k)] c L (fun v L' => v = .tuple #[.string (seeX l q k).1, .bool (seeX l q k).2] ∧ L' = L) := by
  refine Fn.enter Tryz.func133 rfl 37 rfl rfl (fun R hR => ?_)
  refine Cd.seq (fun K1 hK1 => ?_)
  refine Cd.region [0, 1, 2] rfl ?_
  refine Seq.op at0 rfl (Op.new rfl (O.box (v := .agg _) rfl (cs := (Key_enc k)) rfl) ?_)
  intro b2 hb2
  refine Seq.rd0 at1 rfl rfl (O.assign (v := .string _) rfl) ?_
  refine Seq.rd0 at2 rfl rfl (O.assign (v := .bool _) rfl) ?_
  refine Seq.nil ?_
  refine hK1 ?_
  refine Cd.seq (fun K3 hK3 => ?_)
  refine Cd.seq (fun K4 hK4 => ?_)
  refine Cd.draw 12 rfl po ?_
  refine Any.rd0 0 at0 rfl rfl (O.move (v := .pointer _) rfl) (by kernel_rfl) (by kernel_rfl) (by kernel_rfl) ?_
  refine Any.rd0 1 at1 rfl rfl (O.nilP rfl) (by kernel_rfl) (by kernel_rfl) (by kernel_rfl) ?_
  refine Any.rd0 2 at2 rfl rfl (O.field fo_208_1 rfl) (by kernel_rfl) (by kernel_rfl) (by kernel_rfl) ?_
  refine Any.rd1 3 at3 rfl rfl (O.load kd_165 rfl r3_2) hxr.cons (by kernel_rfl) (by kernel_rfl) (by kernel_rfl) ?_
  refine Any.rd1 4 at4 rfl rfl (O.loadA kd_45 rfl (Nat.le_of_ble_eq_true rfl) (Key_all _)) Rd.head (by kernel_rfl) (by kernel_rfl) (by kernel_rfl) ?_
  refine Any.rd1 5 at5 rfl rfl (O.lookD (ok := true) (encV := wV) (a := k) wz mp_165 kk_key hMw zo_47 rfl (by exact rfl)) hmr.cons (by kernel_rfl) (by kernel_rfl) (by kernel_rfl) ?_
  refine Any.rd0 6 at6 rfl rfl (O.move (v := .tuple _) rfl) (by kernel_rfl) (by kernel_rfl) (by kernel_rfl) ?_
  refine Any.rd0 7 at7 rfl rfl (O.ext rfl r2_0) (by kernel_rfl) (by kernel_rfl) (by kernel_rfl) ?_
  refine Any.rd0 8 at8 rfl rfl (O.ext rfl r2_1) (by kernel_rfl) (by kernel_rfl) (by kernel_rfl) ?_
  refine Any.one 9 at9 rfl (by kernel_rfl) ⟨⟨⟨trivial, hxr.cons⟩, Rd.head⟩, hmr.cons⟩ ?_
  refine Op.new rfl (O.alloc zo_47 (cs := (Write_enc Write.zero)) rfl) ?_
  intro b5 hb5
  refine Any.toK ?_
  refine Any.one 10 at10 rfl (by kernel_rfl) ⟨⟨⟨trivial, hxr.cons.cons⟩, Rd.head.cons⟩, hmr.cons.cons⟩ ?_
  refine Op.set0 rfl (O.store kd_47 rfl (v := .agg _) rfl (Write_size _) (Write_room (Write_size _)) (Write_one _) (Write_put _ (Write_size _))) ?_
  refine Any.toK ?_
  refine Any.rd0 11 at11 rfl rfl (O.assign (v := .bool _) rfl) (by kernel_rfl) (by kernel_rfl) (by kernel_rfl) ?_
  refine Any.done (by kernel_rfl) ⟨⟨⟨trivial, hxr.cons.cons⟩, Rd.head.cons⟩, hmr.cons.cons⟩ ?_
  refine hK4 ?_
  refine Cd.seq (fun K6 hK6 => ?_)
  refine Cd.region [0] rfl ?_
  refine Seq.rd0 at0 rfl rfl (O.move (v := .bool _) rfl) ?_
  refine Seq.nil ?_
  refine hK6 ?_
  refine Cd.cond ((alook q.2.2 k).isSome) rfl (fun t7 => ?_) (fun t7 => ?_)
  · skip
    refine Cd.seq (fun K8 hK8 => ?_)
    refine Cd.draw 7 rfl po ?_
    refine Any.rd0 0 at0 rfl rfl (O.field fo_47_1 rfl) (by kernel_rfl) (by kernel_rfl) (by kernel_rfl) ?_
    refine Any.rd1 1 at1 rfl rfl (O.load kd_9 rfl (Write_val _)) Rd.head (by kernel_rfl) (by kernel_rfl) (by kernel_rfl) ?_
    refine Any.rd0 2 at2 rfl rfl (O.field fo_47_2 rfl) (by kernel_rfl) (by kernel_rfl) (by kernel_rfl) ?_
    refine Any.rd1 3 at3 rfl rfl (O.load kd_4 rfl (Write_gone _)) Rd.head (by kernel_rfl) (by kernel_rfl) (by kernel_rfl) ?_
    refine Any.rd0 4 at4 rfl rfl (O.not rfl) (by kernel_rfl) (by kernel_rfl) (by kernel_rfl) ?_
    refine Any.rd0 5 at5 rfl rfl (O.assign (v := .string _) rfl) (by kernel_rfl) (by kernel_rfl) (by kernel_rfl) ?_
    refine Any.rd0 6 at6 rfl rfl (O.assign (v := .bool _) rfl) (by kernel_rfl) (by kernel_rfl) (by kernel_rfl) ?_
    refine Any.done (by kernel_rfl) ⟨⟨trivial, Rd.head⟩, Rd.head⟩ ?_
    refine hK8 ?_
    refine Cd.ret ?_
    exact hR _ _ (Res.two (v := .string _) (v' := .bool _) rfl rfl rfl) ⟨by unfold seeX; cases h8 : alook q.2.2 k <;> simp_all, rfl⟩ (.cons _ (.cons _ (.refl _)))
  · skip
    refine Cd.skip ?_
    refine hK3 ?_
    refine Cd.seq (fun K9 hK9 => ?_)
    refine Cd.draw 14 rfl po ?_
    refine Any.rd0 0 at0 rfl rfl (O.move (v := .pointer _) rfl) (by kernel_rfl) (by kernel_rfl) (by kernel_rfl) ?_
    refine Any.rd0 1 at1 rfl rfl (O.nilP rfl) (by kernel_rfl) (by kernel_rfl) (by kernel_rfl) ?_
    refine Any.rd0 2 at2 rfl rfl (O.field fo_203_0 rfl) (by kernel_rfl) (by kernel_rfl) (by kernel_rfl) ?_
    refine Any.rd1 3 at3 rfl rfl (O.load kd_137 rfl r4_0) hp.cons.cons (by kernel_rfl) (by kernel_rfl) (by kernel_rfl) ?_
    refine Any.rd1 4 at4 rfl rfl (O.loadA kd_45 rfl (Nat.le_of_ble_eq_true rfl) (Key_all _)) Rd.head.cons (by kernel_rfl) (by kernel_rfl) (by kernel_rfl) ?_
    refine Any.rd0 5 at5 rfl rfl (O.move (v := .pointer _) rfl) (by kernel_rfl) (by kernel_rfl) (by kernel_rfl) ?_
    refine Any.rd0 6 at6 rfl rfl (O.nilP rfl) (by kernel_rfl) (by kernel_rfl) (by kernel_rfl) ?_
    refine Any.rd0 7 at7 rfl rfl (O.field fo_208_0 rfl) (by kernel_rfl) (by kernel_rfl) (by kernel_rfl) ?_
    refine Any.rd1 8 at8 rfl rfl (O.loadA kd_24 rfl (Nat.le_of_ble_eq_true rfl) rfl) hxr.cons.cons (by kernel_rfl) (by kernel_rfl) (by kernel_rfl) ?_
    refine Any.one 9 at9 rfl (by kernel_rfl) ⟨⟨⟨trivial, hp.cons.cons⟩, Rd.head.cons⟩, hxr.cons.cons⟩ ?_
    refine Op.callF rfl hb_100 (C_store_Get (k := k) (s := q.2.1) (hS.cons.cons)) rfl ?_
    rintro _ _ ⟨rfl, rfl⟩
    refine Any.toK ?_
    refine Any.rd0 10 at10 rfl rfl (O.ext rfl r2_0) (by kernel_rfl) (by kernel_rfl) (by kernel_rfl) ?_
    refine Any.rd0 11 at11 rfl rfl (O.ext rfl r2_1) (by kernel_rfl) (by kernel_rfl) (by kernel_rfl) ?_
    refine Any.rd0 12 at12 rfl rfl (O.assign (v := .string _) rfl) (by kernel_rfl) (by kernel_rfl) (by kernel_rfl) ?_
    refine Any.rd0 13 at13 rfl rfl (O.assign (v := .bool _) rfl) (by kernel_rfl) (by kernel_rfl) (by kernel_rfl) ?_
    refine Any.done (by kernel_rfl) ⟨⟨⟨trivial, hp.cons.cons⟩, Rd.head.cons⟩, hxr.cons.cons⟩ ?_
    refine hK9 ?_
    refine Cd.ret ?_
    exact hR _ _ (Res.two (v := .string _) (v' := .bool _) rfl rfl rfl) ⟨by unfold seeX; cases h8 : alook q.2.2 k <;> simp_all, rfl⟩ (.cons _ (.cons _ (.refl _)))

set_option maxRecDepth 100000 in
set_option maxHeartbeats 2000000 in
theorem C_solo_Get_some {c : Cx} {L : List Pt} {p sb lm ck : Nat} {es : Array MapEntry} {l : List (Key × CV)} {xl : List (I64 × TX)} {bg la : Int} (hp : Rd c L p (.cells #[.pointer (some ⟨sb, 0, none⟩), .map (some lm), .int .i64 bg, .int .i64 la] 203 (0, 0))) (hS : StAt c L sb l) (hlm : Rd c L lm (.map es ck)) (hMx : MapIs i64V txV es ck xl) {q : TX} {mb ck9 : Nat} {es9 : Array MapEntry} (hxr : Rd c L q.1 (.cells #[.int .i64 q.2.1.t, .int .u8 q.2.1.n, .map (some mb)] 208 (0, 0))) (hmr : Rd c L mb (.map es9 ck9)) (hMw : MapIs keyV wV es9 ck9 q.2.2) {ti : I64} {k : Key} (hl : alook xl ti = some q) : Fn Tryz.prog 58 #[.pointer (some ⟨p, 0, none⟩), .int .i64 ti.1, .agg (Key_enc k)] c L (fun v L' => v = .tuple #[.string (seeP l q k).1, .bool (seeP l q k).2.1, .int .i64 (seeP l q k).2.2] ∧ L' = L) := by
  refine Fn.enter Tryz.func58 rfl 34 rfl rfl (fun R hR => ?_)
  refine Cd.seq (fun K1 hK1 => ?_)
  refine Cd.region [0, 1, 2, 3] rfl ?_
  refine Seq.op at0 rfl (Op.new rfl (O.box (v := .agg _) rfl (cs := (Key_enc k)) rfl) ?_)
  intro b2 hb2
  refine Seq.rd0 at1 rfl rfl (O.assign (v := .string _) rfl) ?_
  refine Seq.rd0 at2 rfl rfl (O.assign (v := .bool _) rfl) ?_
  refine Seq.rd0 at3 rfl rfl (O.assign (v := .int .i64 _) rfl) ?_
  refine Seq.nil ?_
  refine hK1 ?_
  refine Cd.seq (fun K3 hK3 => ?_)
  refine Cd.region [0, 1, 2, 3, 4, 5, 6] rfl ?_
  refine Seq.rd0 at0 rfl rfl (O.move (v := .pointer _) rfl) ?_
  refine Seq.rd0 at1 rfl rfl (O.nilP rfl) ?_
  refine Seq.rd0 at2 rfl rfl (O.field fo_203_1 rfl) ?_
  refine Seq.rd1 at3 rfl rfl (O.load kd_201 rfl r4_1) hp.cons ?_
  refine Seq.rd0 at4 rfl rfl (O.move (v := .int .i64 _) rfl) ?_
  refine Seq.rd1 at5 rfl rfl (O.lookS (ok := false) (encV := txV) (a := ti) mp_201 kk_i64 hMx rfl (by exact rfl) hl) hlm.cons ?_
  refine Seq.rd0 at6 rfl rfl (O.assign (v := .pointer _) rfl) ?_
  refine Seq.nil ?_
  refine hK3 ?_
  refine Cd.seq (fun K4 hK4 => ?_)
  refine Cd.block ?_
  refine Cd.seq (fun K5 hK5 => ?_)
  refine Cd.region [0, 1, 2] rfl ?_
  refine Seq.rd0 at0 rfl rfl (O.move (v := .pointer _) rfl) ?_
  refine Seq.rd0 at1 rfl rfl (O.eqNil ds_206 rfl rfl) ?_
  refine Seq.rd0 at2 rfl rfl (O.assign (v := .bool _) rfl) ?_
  refine Seq.nil ?_
  refine hK5 ?_
  refine Cd.condF rfl ?_
  refine Cd.seq (fun K6 hK6 => ?_)
  refine Cd.region [0, 1, 2, 3] rfl ?_
  refine Seq.rd1 at0 rfl rfl (O.loadA kd_45 rfl (Nat.le_of_ble_eq_true rfl) (Key_all _)) Rd.head ?_
  refine Seq.op at1 rfl (Op.callF rfl hb_97 C_key_Good rfl ?_)
  rintro _ _ ⟨rfl, rfl⟩
  refine Seq.rd0 at2 rfl rfl (O.not rfl) ?_
  refine Seq.rd0 at3 rfl rfl (O.assign (v := .bool _) rfl) ?_
  refine Seq.nil ?_
  refine hK6 ?_
  refine Cd.cond (!(goodK k)) rfl (fun t7 => ?_) (fun t7 => ?_)
  · skip
    refine Cd.seq (fun K8 hK8 => ?_)
    refine Cd.region [0, 1, 2] rfl ?_
    refine Seq.rd0 at0 rfl rfl (O.assign (v := .string _) rfl) ?_
    refine Seq.rd0 at1 rfl rfl (O.assign (v := .bool _) rfl) ?_
    refine Seq.rd0 at2 rfl rfl (O.assign (v := .int .i64 _) rfl) ?_
    refine Seq.nil ?_
    refine hK8 ?_
    refine Cd.ret ?_
    exact hR _ _ (Res.three (v := .string _) (v' := .bool _) (v'' := .int .i64 _) rfl rfl rfl rfl) ⟨by unfold seeP; simp_all, rfl⟩ (.cons _ (.refl _))
  · skip
    refine Cd.skip ?_
    refine hK4 ?_
    refine Cd.seq (fun K9 hK9 => ?_)
    refine Cd.region [0, 1, 2, 3, 4, 5, 6, 7, 8] rfl ?_
    refine Seq.rd0 at0 rfl rfl (O.move (v := .pointer _) rfl) ?_
    refine Seq.rd0 at1 rfl rfl (O.move (v := .pointer _) rfl) ?_
    refine Seq.rd1 at2 rfl rfl (O.loadA kd_45 rfl (Nat.le_of_ble_eq_true rfl) (Key_all _)) Rd.head ?_
    refine Seq.op at3 rfl (Op.callF rfl hb_133 (C_solo_getx (es := es) (ck := ck) (xl := xl) (k := k) (hp.cons) (hS.cons) (hxr.cons) (hmr.cons) hMw) rfl ?_)
    rintro _ _ ⟨rfl, rfl⟩
    refine Seq.rd0 at4 rfl rfl (O.move (v := .tuple _) rfl) ?_
    refine Seq.rd0 at5 rfl rfl (O.ext rfl r2_0) ?_
    refine Seq.rd0 at6 rfl rfl (O.ext rfl r2_1) ?_
    refine Seq.rd0 at7 rfl rfl (O.assign (v := .string _) rfl) ?_
    refine Seq.rd0 at8 rfl rfl (O.assign (v := .bool _) rfl) ?_
    refine Seq.nil ?_
    refine hK9 ?_
    refine Cd.seq (fun K10 hK10 => ?_)
    refine Cd.region [0, 1, 2, 3, 4] rfl ?_
    refine Seq.rd0 at0 rfl rfl (O.move (v := .string _) rfl) ?_
    refine Seq.rd0 at1 rfl rfl (O.move (v := .bool _) rfl) ?_
    refine Seq.rd0 at2 rfl rfl (O.assign (v := .string _) rfl) ?_
    refine Seq.rd0 at3 rfl rfl (O.assign (v := .bool _) rfl) ?_
    refine Seq.rd0 at4 rfl rfl (O.assign (v := .int .i64 _) rfl) ?_
    refine Seq.nil ?_
    refine hK10 ?_
    refine Cd.ret ?_
    exact hR _ _ (Res.three (v := .string _) (v' := .bool _) (v'' := .int .i64 _) rfl rfl rfl rfl) ⟨by unfold seeP; simp_all, rfl⟩ (.cons _ (.refl _))

theorem SoOwn.rd {c : Cx} {R Ls : List Pt} {p : Nat} {l : List (Key × CV)} {xl : List (I64 × TX)} {bg la : Int} (hS : SoOwn p l xl bg la Ls) : ∃ sb lm es ck, Rd c (Ls ++ R) p (.cells #[.pointer (some ⟨sb, 0, none⟩), .map (some lm), .int .i64 bg, .int .i64 la] 203 (0, 0)) ∧ StAt c (Ls ++ R) sb l ∧ Rd c (Ls ++ R) lm (.map es ck) ∧ MapIs i64V txV es ck xl ∧
    ∀ {ti : I64} {q : TX}, alook xl ti = some q → ∃ mb es9 ck9, Rd c (Ls ++ R) q.1 (.cells #[.int .i64 q.2.1.t, .int .u8 q.2.1.n, .map (some mb)] 208 (0, 0)) ∧ Rd c (Ls ++ R) mb (.map es9 ck9) ∧ MapIs keyV wV es9 ck9 q.2.2 ∧ q.2.2.length ≤ 16 := by
  obtain ⟨⟨sb, lm, es, ck, L1, L2, rfl, h1, h2, h3⟩, h4, h5, h6⟩ := hS
  refine ⟨sb, lm, es, ck, .head, ?_, Rd.head.cons, h2, fun hl => ?_⟩
  · have := StOwn.at_ (c := c) (R := L2 ++ R) h1
    rw [← List.append_assoc] at this
    exact this.cons.cons
  · obtain ⟨mb, es9, ck9, h7, h8, h9, h10⟩ := h3.rd (c := c) (R := R) hl
    have e : L1 ++ L2 ++ R = L1 ++ (L2 ++ R) := List.append_assoc _ _ _
    refine ⟨mb, es9, ck9, ?_, ?_, h9, h10⟩
    · have := h7.app (G := L1); rw [← e] at this; exact this.cons.cons
    · have := h8.app (G := L1); rw [← e] at this; exact this.cons.cons
theorem C_So_Get {c : Cx} {R Ls : List Pt} {p : Nat} {l : List (Key × CV)} {xl : List (I64 × TX)} {bg la : Int} {ti : I64} {k : Key} {q : TX} (hS : SoOwn p l xl bg la Ls) (hl : alook xl ti = some q) :
    Fn Tryz.prog 58 #[.pointer (some ⟨p, 0, none⟩), .int .i64 ti.1, .agg (Key_enc k)] c (Ls ++ R) (fun v L' => v = .tuple #[.string (seeP l q k).1, .bool (seeP l q k).2.1, .int .i64 (seeP l q k).2.2] ∧ L' = Ls ++ R) := by
  obtain ⟨sb, lm, es, ck, h1, h2, h3, h4, h5⟩ := hS.rd (c := c) (R := R)
  obtain ⟨mb, es9, ck9, h6, h7, h8, _⟩ := h5 hl
  exact C_solo_Get_some h1 h2 h3 h4 h6 h7 h8 hl
set_option maxRecDepth 100000 in
set_option maxHeartbeats 2000000 in
theorem C_key_SortO {c : Cx} {L : List Pt} {av : Option Addr} {nx cx : Nat} {xs : List Key} (hX : SlAt c L Key_enc av nx xs) (hN : xs.length ≤ 1000000000) : Fn Tryz.prog 134 #[.slice av nx cx] c L (fun v L' => ∃ ys Ls, KSorted ys ∧ (∀ k, k ∈ ys ↔ k ∈ xs) ∧ OwnK ys v Ls ∧ L' = Ls ++ L) := by
  refine Fn.enter Tryz.func134 rfl 7 rfl rfl (fun R hR => ?_)
  refine Cd.seq (fun K1 hK1 => ?_)
  refine Cd.region [0] rfl ?_
  refine Seq.rd0 at0 rfl rfl (O.assign (v := .slice _ _ _) rfl) ?_
  refine Seq.nil ?_
  refine hK1 ?_
  refine Cd.seq (fun K2 hK2 => ?_)
  refine Cd.region [0, 1, 2, 3, 4] rfl ?_
  refine Seq.rd0 at0 rfl rfl (O.move (v := .slice _ _ _) rfl) ?_
  refine Seq.op at1 rfl (Op.callF rfl hb_200 C_slicesValues rfl ?_)
  rintro _ _ ⟨bb3, hbb3, rfl, rfl⟩
  refine Seq.op at2 rfl (Op.callF rfl hb_199 (C_SortedFunc_Key (gf := 238) (lb := [.pointer (some ⟨bb3, 0, none⟩)]) (N := xs.length) (S := fun ys => ys = xs) hN (by kernel_rfl) (C_Values Rd.head (hX.cons)) (fun _ h => Nat.le_of_eq (congrArg List.length h))) rfl ?_)
  rintro v9 _ ⟨xs9, ys9, Ls9, hS9, hp9, ho9, hw9, rfl⟩
  refine Seq.op at3 rfl (Op.callF rfl hb_198 (C_Compact hw9 (by rw [hp9.length_eq, hS9]; omega)) rfl ?_)
  rintro v8 _ ⟨Ls8, hw8, rfl⟩
  refine Seq.rd0 at4 rfl rfl (O.assign (v := v8) rfl) ?_
  refine Seq.nil ?_
  refine hK2 ?_
  refine Cd.ret ?_
  have hm8 : ∀ k, k ∈ dd ys9 ↔ k ∈ xs := fun k => by rw [dd_mem, hp9.mem_iff, hS9]
  exact hR _ _ (Res.one (v := v8) rfl rfl) ⟨dd ys9, Ls8, dd_ord ho9, hm8, hw8, rfl⟩ (List.Sublist.append_left (.cons _ (.refl _)) _)

end Go.X

namespace Go.X
open Go.Proofs
theorem ds_66 : isDesc Tryz.prog 66 = 5 := by kernel_rfl
theorem ei_66 : elemInfo Tryz.prog 66 = some (111, 17, 32, .agg #[.int .u8 0, .int .u8 0, .int .u8 0, .int .u8 0, .int .u8 0, .int .u8 0, .int .u8 0, .int .u8 0, .int .u8 0, .int .u8 0, .int .u8 0, .int .u8 0, .int .u8 0, .int .u8 0, .int .u8 0, .int .u8 0, .string ⟨#[]⟩]) := by kernel_rfl
theorem hb_137 : hasBody Tryz.prog 137 = true := by kernel_rfl
theorem hb_138 : hasBody Tryz.prog 138 = true := by kernel_rfl
set_option maxRecDepth 100000 in
set_option maxHeartbeats 2000000 in
theorem C_keysWr_fn {c : Cx} {L : List Pt} {V : Type} {encV : V → Value} {Rt Lo : List Pt} {bb bm l ck : Nat} {es : Array MapEntry} {lst : List (Key × V)} {I : List Key → List Pt → Prop} (hm : MapIs (fun x : Key => (.agg (Key_enc x))) encV es ck lst) (hb : Rd c Rt bb (.cells #[.map (some bm)] 165 (0, 0))) (hr : Rd c Rt bm (.map es ck)) (hY : ∀ pre x Lo R', pre.length < lst.length → I pre Lo → YStep Tryz.prog c l ((fun x : Key => (.agg (Key_enc x))) x) (Lo ++ R') (fun L' => ∃ Lo', I (pre ++ [x]) Lo' ∧ L' = Lo' ++ R')) (h0 : I [] Lo) : Fn Tryz.prog 203 #[.func (.yield l) #[] #[], .pointer (some ⟨bb, 0, none⟩)] c (Lo ++ Rt) (fun v L' => ∃ xs Lo', xs.Perm (lst.map Prod.fst) ∧ I xs Lo' ∧ L' = Lo' ++ Rt) := by
  refine Fn.enter Tryz.func203 rfl 14 rfl rfl (fun R hR => ?_)
  refine Cd.seq (fun K1 hK1 => ?_)
  refine Cd.region [0, 1] rfl ?_
  refine Seq.rd1 at0 rfl rfl (O.load kd_165 rfl r1_0) (hb.sub (List.sublist_append_right _ _)) ?_
  refine Seq.op at1 rfl (Op.gen rfl (O.range mp_165 hm rfl (hr.sub (List.sublist_append_right _ _))) ?_)
  rintro _ _ ⟨r, it, hr0, rfl, hi, rfl⟩
  refine Seq.nil ?_
  refine hK1 ?_
  refine Cd.block ?_
  refine Cd.loop (fun m2 e3 L4 => ∃ pre : List Key, ∃ rest : List (Key × V), ∃ Lo1 : List Pt, ∃ it : Obj, m2 = rest.length ∧ e3 0 = .func (.yield l) #[] #[] ∧ e3 5 = .pointer (some ⟨r, 0, none⟩) ∧ L4 = (r, it) :: (Lo1 ++ Rt) ∧ I pre Lo1 ∧ ItIs (fun x : Key => (.agg (Key_enc x))) encV es ck bm rest it ∧ (pre ++ rest.map Prod.fst).Perm (lst.map Prod.fst)) _ ⟨[], lst, Lo, it, rfl, rfl, rfl, rfl, h0, hi, .refl _⟩ ?_
  rintro _ e3 _ ⟨pre, rest, Lo1, it, rfl, s5, s6, rfl, hI, hi, hp⟩ K7 hK7
  refine Cd.seq (fun K8 hK8 => ?_)
  refine Cd.region [0, 1] rfl ?_
  refine Seq.op at0 rfl (Op.gen rfl (O.next hm hi (by exact s6) (Rd.cons (hr.sub (List.sublist_append_right _ _)))) ?_)
  rintro _ _ (⟨rfl, rfl, rfl⟩ | ⟨a, u, rest', it', hpm, rfl, hi', hent, rfl⟩)
  · skip
    refine Seq.rd0 at1 rfl rfl (O.ext rfl r1_0) ?_
    refine Seq.nil ?_
    refine hK8 ?_
    refine Cd.seq (fun K9 hK9 => ?_)
    refine Cd.condF rfl ?_
    refine Cd.exit ?_
    exact hR _ _ (Res.zero rfl) ⟨pre, Lo1, by simpa using hp, hI, rfl⟩ (.cons _ (.refl _))
  · skip
    refine Seq.rd0 at1 rfl rfl (O.ext rfl r3_0) ?_
    refine Seq.nil ?_
    refine hK8 ?_
    refine Cd.seq (fun K10 hK10 => ?_)
    refine Cd.condT rfl ?_
    refine Cd.skip ?_
    refine hK10 ?_
    refine Cd.block ?_
    refine Cd.seq (fun K11 hK11 => ?_)
    refine Cd.region [0, 1, 2, 3] rfl ?_
    refine Seq.op at0 rfl (Op.gen rfl (hent _ _ (by exact s6) Rd.head (Rd.cons (hr.sub (List.sublist_append_right _ _)))) ?_)
    rintro _ _ ⟨rfl, rfl⟩
    refine Seq.rd0 at1 rfl rfl (O.ext rfl r2_0) ?_
    refine Seq.op at2 rfl (Op.new rfl (O.alloc zo_45 (cs := (Key_enc Key.zero)) rfl) ?_)
    intro b12 hb12
    refine Seq.op at3 rfl (Op.set0 rfl (O.store kd_45 rfl (v := .agg _) rfl (Key_size _) (Key_room (Key_size _)) (Key_one _) (Key_put _ (Key_size _))) ?_)
    refine Seq.nil ?_
    refine hK11 ?_
    refine Cd.seq (fun K13 hK13 => ?_)
    refine Cd.region [0, 1, 2, 3] rfl ?_
    refine Seq.rd0 at0 rfl rfl (O.move (v := (.func (.yield l) #[] #[])) (by exact s5)) ?_
    refine Seq.rd1 at1 rfl rfl (O.loadA kd_45 rfl (Nat.le_of_ble_eq_true rfl) (Key_all _)) Rd.head ?_
    refine Seq.opY at2 rfl (Ent.perm (Op.yield rfl rfl rfl (hY pre a Lo1 _ (step_lt hp hpm) hI) ?_) (bring (Ls := Lo1) (pre := [(b12, _), (r, _)]) (R := Rt)))
    rintro _ ⟨Lo2, hI2, rfl⟩
    refine Ent.perm ?_ (bring (Ls := Lo2) (pre := [(b12, _), (r, _)]) (R := Rt)).symm
    refine Ent.drop ?_
    refine Seq.rd0 at3 rfl rfl (O.not rfl) ?_
    refine Seq.nil ?_
    refine hK13 ?_
    refine Cd.condF rfl ?_
    refine Cd.skip ?_
    exact hK7 _ (step_dec hpm) ⟨pre ++ [a], rest', Lo2, it', rfl, (by exact s5), (by exact s6), rfl, hI2, hi', perm_step hp hpm⟩

theorem C_keysWr {c : Cx} {V : Type} {encV : V → Value} {Rt : List Pt} {bb bm ck : Nat} {es : Array MapEntry} {lst : List (Key × V)} (hm : MapIs (fun x : Key => (.agg (Key_enc x))) encV es ck lst) (hb : Rd c Rt bb (.cells #[.map (some bm)] 165 (0, 0))) (hr : Rd c Rt bm (.map es ck)) :
    IterOk Tryz.prog c (fun x : Key => (.agg (Key_enc x))) 203 [.pointer (some ⟨bb, 0, none⟩)] lst.length (fun xs => xs.Perm (lst.map Prod.fst)) Rt := fun _ _ _ hY h0 => C_keysWr_fn (L := Rt) hm hb hr hY h0

set_option maxRecDepth 100000 in
set_option maxHeartbeats 2000000 in
theorem C_mapsKeys_wr {c : Cx} {L : List Pt} {mb : Nat} : Fn Tryz.prog 137 #[.map (some mb)] c L (fun v L' => ∃ bb, c.w0.heap.size ≤ bb ∧ v = .func (.func 203) #[] #[.pointer (some ⟨bb, 0, none⟩)] ∧ L' = (bb, .cells #[.map (some mb)] 165 (0, 0)) :: L) := by
  refine Fn.enter Tryz.func137 rfl 4 rfl rfl (fun R hR => ?_)
  refine Cd.seq (fun K1 hK1 => ?_)
  refine Cd.region [0, 1] rfl ?_
  refine Seq.op at0 rfl (Op.new rfl (O.box (v := .map _) rfl rfl) ?_)
  intro b2 hb2
  refine Seq.rd0 at1 rfl rfl (O.assign (v := .nilFunc) rfl) ?_
  refine Seq.nil ?_
  refine hK1 ?_
  refine Cd.seq (fun K3 hK3 => ?_)
  refine Cd.region [0, 1] rfl ?_
  refine Seq.rd0 at0 rfl rfl (O.mkFunc (fs' := #[]) (cs' := #[.pointer (some ⟨b2, 0, none⟩)]) (by kernel_rfl) (by kernel_rfl)) ?_
  refine Seq.rd0 at1 rfl rfl (O.assign (v := .func _ _ _) rfl) ?_
  refine Seq.nil ?_
  refine hK3 ?_
  refine Cd.ret ?_
  exact hR _ _ (Res.one (v := .func _ _ _) rfl rfl) ⟨b2, hb2, rfl, rfl⟩ (.refl _)

/-! ## Scan -/
def hitX (l : List (Key × CV)) (q : TX) (a b k : Key) : Option Item := if (seeX l q k).2 = true ∧ withinK k a b = true then some ⟨k, (seeX l q k).1⟩ else none
theorem fm_snoc {α β : Type} {f : α → Option β} {xs : List α} {i : Nat} (h : i < xs.length) : (xs.take (i + 1)).filterMap f = (xs.take i).filterMap f ++ (f xs[i]).toList := by
  rw [← List.take_append_getElem h, List.filterMap_append]
  congr 1
theorem fm_take {α β : Type} {f : α → Option β} {xs : List α} {i m : Nat} {acc : List β} (ha : acc = (xs.take i).filterMap f) (h1 : acc.length ≤ m) (h2 : m ≤ acc.length ∨ xs.length ≤ i) : acc = (xs.filterMap f).take m := by
  have h3 : xs.filterMap f = acc ++ (xs.drop i).filterMap f := by rw [ha, ← List.filterMap_append, List.take_append_drop]
  rw [h3]
  rcases h2 with h2 | h2
  · rw [List.take_append_of_le_length (by omega), List.take_of_length_le h1]
  · rw [List.drop_eq_nil_of_le h2, List.filterMap_nil, List.append_nil, List.take_of_length_le h1]
theorem keys_le {ys xs : List Key} (h : KSorted ys) (hm : ∀ k, k ∈ ys ↔ k ∈ xs) : ys.length ≤ xs.length := by
  exact nodup_le h.nodup (fun k hk => (hm k).1 hk)

set_option maxRecDepth 100000 in
set_option maxHeartbeats 2000000 in
theorem C_solo_Scan_some {c : Cx} {L : List Pt} {p sb lm ck : Nat} {es : Array MapEntry} {l : List (Key × CV)} {xl : List (I64 × TX)} {bg la : Int} (hp : Rd c L p (.cells #[.pointer (some ⟨sb, 0, none⟩), .map (some lm), .int .i64 bg, .int .i64 la] 203 (0, 0))) (hS : StAt c L sb l) (hlm : Rd c L lm (.map es ck)) (hMx : MapIs i64V txV es ck xl) {q : TX} {mb ck9 : Nat} {es9 : Array MapEntry} (hxr : Rd c L q.1 (.cells #[.int .i64 q.2.1.t, .int .u8 q.2.1.n, .map (some mb)] 208 (0, 0))) (hmr : Rd c L mb (.map es9 ck9)) (hMw : MapIs keyV wV es9 ck9 q.2.2) {ti : I64} {a b : Key} {most : Int} (hl : alook xl ti = some q) (h200 : l.length ≤ 200) (h16 : q.2.2.length ≤ 16) : Fn Tryz.prog 59 #[.pointer (some ⟨p, 0, none⟩), .int .i64 ti.1, .agg (Key_enc a), .agg (Key_enc b), .int .i64 most] c L (fun v L' => ∃ yq its Li ai ci, v = .tuple #[.slice ai its.length ci, .int .i64 0] ∧ KSorted yq ∧ (∀ k, k ∈ yq ↔ k ∈ l.map Prod.fst ∨ k ∈ q.2.2.map Prod.fst) ∧ its = (yq.filterMap (hitX l q a b)).take most.toNat ∧ OwnSl 111 17 (rows Item_enc its) its.length (.slice ai its.length ci) Li ∧ L' = Li ++ L) := by
  refine Fn.enter Tryz.func59 rfl 70 rfl rfl (fun R hR => ?_)
  refine Cd.seq (fun K1 hK1 => ?_)
  refine Cd.region [0, 1, 2, 3] rfl ?_
  refine Seq.op at0 rfl (Op.new rfl (O.box (v := .agg _) rfl (cs := (Key_enc a)) rfl) ?_)
  intro b2 hb2
  refine Seq.op at1 rfl (Op.new rfl (O.box (v := .agg _) rfl (cs := (Key_enc b)) rfl) ?_)
  intro b3 hb3
  refine Seq.rd0 at2 rfl rfl (O.assign (v := .slice _ _ _) rfl) ?_
  refine Seq.rd0 at3 rfl rfl (O.assign (v := .int .i64 _) rfl) ?_
  refine Seq.nil ?_
  refine hK1 ?_
  refine Cd.seq (fun K4 hK4 => ?_)
  refine Cd.region [0, 1, 2, 3, 4, 5, 6] rfl ?_
  refine Seq.rd0 at0 rfl rfl (O.move (v := .pointer _) rfl) ?_
  refine Seq.rd0 at1 rfl rfl (O.nilP rfl) ?_
  refine Seq.rd0 at2 rfl rfl (O.field fo_203_1 rfl) ?_
  refine Seq.rd1 at3 rfl rfl (O.load kd_201 rfl r4_1) hp.cons.cons ?_
  refine Seq.rd0 at4 rfl rfl (O.move (v := .int .i64 _) rfl) ?_
  refine Seq.rd1 at5 rfl rfl (O.lookS (ok := false) (encV := txV) (a := ti) mp_201 kk_i64 hMx rfl (by exact rfl) hl) hlm.cons.cons ?_
  refine Seq.rd0 at6 rfl rfl (O.assign (v := .pointer _) rfl) ?_
  refine Seq.nil ?_
  refine hK4 ?_
  refine Cd.seq (fun K5 hK5 => ?_)
  refine Cd.seq (fun K6 hK6 => ?_)
  refine Cd.region [0, 1] rfl ?_
  refine Seq.rd0 at0 rfl rfl (O.move (v := .pointer _) rfl) ?_
  refine Seq.rd0 at1 rfl rfl (O.eqNil ds_206 rfl rfl) ?_
  refine Seq.nil ?_
  refine hK6 ?_
  refine Cd.condF rfl ?_
  refine Cd.skip ?_
  refine hK5 ?_
  refine Cd.seq (fun K7 hK7 => ?_)
  refine Cd.region [0] rfl ?_
  refine Seq.rd0 at0 rfl rfl (O.assign (v := .slice _ _ _) rfl) ?_
  refine Seq.nil ?_
  refine hK7 ?_
  refine Cd.seq (fun K8 hK8 => ?_)
  refine Cd.seq (fun K9 hK9 => ?_)
  refine Cd.draw 15 rfl po ?_
  refine Any.rd0 0 at0 rfl rfl (O.move (v := .pointer _) rfl) (by kernel_rfl) (by kernel_rfl) (by kernel_rfl) ?_
  refine Any.rd0 1 at1 rfl rfl (O.nilP rfl) (by kernel_rfl) (by kernel_rfl) (by kernel_rfl) ?_
  refine Any.rd0 2 at2 rfl rfl (O.field fo_203_0 rfl) (by kernel_rfl) (by kernel_rfl) (by kernel_rfl) ?_
  refine Any.rd1 3 at3 rfl rfl (O.load kd_137 rfl r4_0) hp.cons.cons (by kernel_rfl) (by kernel_rfl) (by kernel_rfl) ?_
  refine Any.rd0 5 at5 rfl rfl (O.move (v := .pointer _) rfl) (by kernel_rfl) (by kernel_rfl) (by kernel_rfl) ?_
  refine Any.rd0 6 at6 rfl rfl (O.nilP rfl) (by kernel_rfl) (by kernel_rfl) (by kernel_rfl) ?_
  refine Any.rd0 7 at7 rfl rfl (O.field fo_208_1 rfl) (by kernel_rfl) (by kernel_rfl) (by kernel_rfl) ?_
  refine Any.rd1 8 at8 rfl rfl (O.load kd_165 rfl r3_2) hxr.cons.cons (by kernel_rfl) (by kernel_rfl) (by kernel_rfl) ?_
  refine Any.rd0 14 at14 rfl rfl (O.move (v := .int .i64 _) rfl) (by kernel_rfl) (by kernel_rfl) (by kernel_rfl) ?_
  refine Any.one 4 at4 rfl (by kernel_rfl) ⟨⟨trivial, hp.cons.cons⟩, hxr.cons.cons⟩ ?_
  refine Op.callF rfl hb_135 (C_store_Keys (hS.cons.cons)) rfl ?_
  rintro vk1 _ ⟨yk1, Lk1, hpk1, hsk1, hok1, rfl⟩
  have hlk1 := hpk1.length_eq
  rw [List.length_map] at hlk1
  refine Ent.perm ?_ (bring (Ls := Lk1) (pre := [(b3, _), (b2, _)]) (R := L)).symm
  refine Any.toK ?_
  refine Any.one 9 at9 rfl (by kernel_rfl) ⟨⟨trivial, hp.app.cons.cons⟩, hxr.app.cons.cons⟩ ?_
  refine Op.callF rfl hb_137 C_mapsKeys_wr rfl ?_
  rintro _ _ ⟨bb10, hbb10, rfl, rfl⟩
  refine Any.toK ?_
  refine Any.one 10 at10 rfl (by kernel_rfl) ⟨⟨trivial, hp.app.cons.cons.cons⟩, hxr.app.cons.cons.cons⟩ ?_
  refine Op.callF rfl hb_136 (C_Collect_Key (gf := 203) (lb := [.pointer (some ⟨bb10, 0, none⟩)]) (N := q.2.2.length) (by omega) (by kernel_rfl) (C_keysWr hMw Rd.head hmr.app.cons.cons.cons) (fun _ h => Nat.le_of_eq (h.length_eq.trans (List.length_map _)))) rfl ?_
  rintro vk2 _ ⟨yk2, Lk2, hpk2, hok2, rfl⟩
  have hlk2 := hpk2.length_eq
  rw [List.length_map] at hlk2
  refine Ent.perm ?_ (bring (Ls := Lk2) (pre := [(bb10, _), (b3, _), (b2, _)]) (R := (Lk1 ++ (L)))).symm
  refine Ent.drop ?_
  refine Any.toK ?_
  refine Any.one 11 at11 rfl (by kernel_rfl) ⟨⟨trivial, hp.app.app.cons.cons⟩, hxr.app.app.cons.cons⟩ ?_
  refine Op.gen rfl (Eg.perm (O.appendOwnZ (k := yk2.length) (new := rows Key_enc yk2) (R := (b3, _) :: (b2, _) :: (Lk2 ++ L)) ei_74 ds_74 (by decide) rfl hok1 ((hok2.src (R := L)).sub (sub_app (.cons _ (.cons _ ((.refl _)))))) (rows_ones Key_one) (by omega)) (bring (pre := (b3, _) :: (b2, _) :: Lk2) (Ls := Lk1) (R := L))) ?_
  rintro _ _ ⟨Lz0, hz0, rfl⟩
  obtain ⟨az0, cz0, rfl⟩ := hz0.form
  rw [← rows_append] at hz0
  refine Ent.perm ?_ (bring (Ls := Lz0) (pre := [(b3, _), (b2, _)]) (R := (Lk2 ++ (L)))).symm
  refine Any.toK ?_
  refine Any.one 12 at12 rfl (by kernel_rfl) ⟨⟨trivial, hp.app.app.cons.cons⟩, hxr.app.app.cons.cons⟩ ?_
  have hXz := OwnSl.at_ (c := c) (R := Lk2 ++ L) hz0 (by rw [List.length_append]) (by omega)
  have hlz : (yk1 ++ yk2).length ≤ 1000000000 := by rw [List.length_append]; omega
  refine Op.callF rfl hb_134 (C_key_SortO (hXz.cons.cons) hlz) rfl ?_
  rintro _ _ ⟨yq, Lq, hnq, hmq, hoq, rfl⟩
  obtain ⟨aq, cq, rfl⟩ := OwnSl.form hoq
  have hqle := keys_le hnq hmq
  rw [List.length_append] at hqle
  have hWq := OwnSl.at_ (c := c) (R := Lz0 ++ (Lk2 ++ L)) hoq rfl (by omega)
  refine Ent.perm ?_ (bring (Ls := Lq) (pre := [(b3, _), (b2, _)]) (R := (Lz0 ++ ((Lk2 ++ (L)))))).symm
  refine Any.toK ?_
  refine Any.rd0 13 at13 rfl rfl (O.lenS ds_74 rfl) (by kernel_rfl) (by kernel_rfl) (by kernel_rfl) ?_
  refine Any.done (by kernel_rfl) ⟨⟨trivial, hp.app.app.app.cons.cons⟩, hxr.app.app.app.cons.cons⟩ ?_
  refine hK9 ?_
  refine Cd.block ?_
  refine Cd.loop (fun m11 e12 L13 => ∃ i : Nat, ∃ ai : Option Addr, ∃ ci : Nat, ∃ Li : List Pt, ∃ acc : List Item, m11 = yq.length - i ∧ e12 0 = .pointer (some ⟨p, 0, none⟩) ∧ e12 4 = .int .i64 most ∧ e12 7 = .pointer (some ⟨b2, 0, none⟩) ∧ e12 8 = .pointer (some ⟨b3, 0, none⟩) ∧ e12 10 = .slice none 0 0 ∧ e12 11 = .int .i64 0 ∧ e12 12 = .pointer (some ⟨q.1, 0, none⟩) ∧ e12 13 = .slice ai acc.length ci ∧ e12 38 = .slice aq yq.length cq ∧ e12 39 = .int .i64 (yq.length : Int) ∧ e12 40 = .int .i64 (i : Int) ∧ L13 = (b3, .cells (Key_enc b) 45 (0, 0)) :: (b2, .cells (Key_enc a) 45 (0, 0)) :: (Li ++ ((Lq ++ ((Lz0 ++ ((Lk2 ++ (L)))))))) ∧ i ≤ yq.length ∧ acc = (yq.take i).filterMap (hitX l q a b) ∧ acc.length ≤ most.toNat ∧ OwnSl 111 17 (rows Item_enc acc) acc.length (.slice ai acc.length ci) Li) _ ⟨0, none, 0, [], [], rfl, rfl, rfl, rfl, rfl, rfl, rfl, rfl, rfl, rfl, rfl, rfl, rfl, Nat.zero_le _, rfl, Nat.zero_le _, (by exact .inl ⟨rfl, rfl, rfl, rfl⟩)⟩ ?_
  rintro _ e12 _ ⟨i, ai, ci, Li, acc, rfl, s14, s15, s16, s17, s18, s19, s20, s21, s22, s23, s24, rfl, hi, hac, hale, hoi⟩ K25 hK25
  have haq : acc.length ≤ i := by rw [hac]; exact Nat.le_trans (List.length_filterMap_le _ _) (by rw [List.length_take]; omega)
  refine Cd.seq (fun K26 hK26 => ?_)
  refine Cd.region [0] rfl ?_
  refine Seq.rd0 at0 rfl rfl (O.lss (by exact s24) (by exact s23)) ?_
  refine Seq.nil ?_
  refine hK26 ?_
  refine Cd.seq (fun K27 hK27 => ?_)
  refine Cd.if ((i : Int) < (yq.length : Int)) rfl (fun t28 => ?_) (fun t28 => ?_)
  · skip
    refine Cd.skip ?_
    refine hK27 ?_
    refine Cd.seq (fun K29 hK29 => ?_)
    refine Cd.block ?_
    refine Cd.seq (fun K30 hK30 => ?_)
    refine Cd.region [0, 1, 2, 3] rfl ?_
    have hlt31 : i < yq.length := by omega
    obtain ⟨pre31, sp31, el31, fz31, hav31, hrd31⟩ := hWq.at_ hlt31
    refine Seq.rd0 at0 rfl rfl (O.indexG sl_74 (by exact s22) hav31 (by exact s24) (by omega) (by omega)) ?_
    refine Seq.rd1 at1 rfl rfl (O.loadA kd_45 rfl (rowRoomP Key_size (getN hlt31)) (rowAtP Key_size (getN hlt31))) hrd31.app.cons.cons ?_
    refine Seq.op at2 rfl (Op.new rfl (O.alloc zo_45 (cs := (Key_enc Key.zero)) rfl) ?_)
    intro b32 hb32
    refine Seq.op at3 rfl (Op.set0 rfl (O.store kd_45 rfl (v := .agg _) rfl (Key_size _) (Key_room (Key_size _)) (Key_one _) (Key_put _ (Key_size _))) ?_)
    refine Seq.nil ?_
    refine hK30 ?_
    refine Cd.seq (fun K33 hK33 => ?_)
    refine Cd.seq (fun K34 hK34 => ?_)
    refine Cd.region [0, 1, 2, 3] rfl ?_
    refine Seq.rd0 at0 rfl rfl (O.move (v := .slice _ _ _) (by exact s21)) ?_
    refine Seq.rd0 at1 rfl rfl (O.lenS ds_66 rfl) ?_
    refine Seq.rd0 at2 rfl rfl (O.move (v := .int .i64 _) (by exact s15)) ?_
    refine Seq.rd0 at3 rfl rfl (O.geq rfl rfl) ?_
    refine Seq.nil ?_
    refine hK34 ?_
    refine Cd.if (most ≤ (acc.length : Int)) rfl (fun t35 => ?_) (fun t35 => ?_)
    · skip
      refine Cd.exit ?_
      refine hK8 ?_
      refine Cd.seq (fun K36 hK36 => ?_)
      refine Cd.region [0, 1, 2] rfl ?_
      refine Seq.rd0 at0 rfl rfl (O.move (v := .slice _ _ _) (by exact s21)) ?_
      refine Seq.rd0 at1 rfl rfl (O.assign (v := .slice _ _ _) rfl) ?_
      refine Seq.rd0 at2 rfl rfl (O.assign (v := .int .i64 _) rfl) ?_
      refine Seq.nil ?_
      refine hK36 ?_
      refine Cd.ret ?_
      have hfin := fm_take (m := most.toNat) hac hale (by first | exact .inr (by omega) | exact .inl (by omega))
      have hmy : ∀ k, k ∈ yq ↔ k ∈ l.map Prod.fst ∨ k ∈ q.2.2.map Prod.fst := fun k => by rw [hmq, List.mem_append, hpk1.mem_iff, hpk2.mem_iff]
      exact hR _ (Li ++ L) (Res.two (v := .slice _ _ _) (v' := .int .i64 _) rfl rfl rfl) ⟨yq, acc, Li, ai, ci, rfl, hnq, hmy, hfin, hoi, rfl⟩ (.cons _ (.cons _ (.cons _ ( List.Sublist.append_left (sub_app (sub_app (sub_app (.refl _)))) Li ))))
    · skip
      refine Cd.skip ?_
      refine hK33 ?_
      refine Cd.seq (fun K37 hK37 => ?_)
      refine Cd.region [0, 1, 2, 3, 4, 5, 6, 7, 8] rfl ?_
      refine Seq.rd0 at0 rfl rfl (O.move (v := .pointer _) (by exact s14)) ?_
      refine Seq.rd0 at1 rfl rfl (O.move (v := .pointer _) (by exact s20)) ?_
      refine Seq.rd1 at2 rfl rfl (O.loadA kd_45 rfl (Nat.le_of_ble_eq_true rfl) (Key_all _)) Rd.head ?_
      refine Seq.op at3 rfl (Op.callF rfl hb_133 (C_solo_getx (es := es) (ck := ck) (xl := xl) (k := yq[i]) (hp.app.app.app.app.cons.cons.cons) (hS.app.app.app.app.cons.cons.cons) (hxr.app.app.app.app.cons.cons.cons) (hmr.app.app.app.app.cons.cons.cons) hMw) rfl ?_)
      rintro _ _ ⟨rfl, rfl⟩
      refine Seq.rd0 at4 rfl rfl (O.move (v := .tuple _) rfl) ?_
      refine Seq.rd0 at5 rfl rfl (O.ext rfl r2_0) ?_
      refine Seq.rd0 at6 rfl rfl (O.ext rfl r2_1) ?_
      refine Seq.rd0 at7 rfl rfl (O.assign (v := .string _) rfl) ?_
      refine Seq.rd0 at8 rfl rfl (O.assign (v := .bool _) rfl) ?_
      refine Seq.nil ?_
      refine hK37 ?_
      refine Cd.seq (fun K38 hK38 => ?_)
      refine Cd.region [0, 1, 2, 3, 4, 5, 6] rfl ?_
      refine Seq.rd0 at0 rfl rfl (O.move (v := .bool _) rfl) ?_
      refine Seq.rd0 at1 rfl rfl (O.move (v := .bool _) rfl) ?_
      cases t39 : (seeX l q yq[i]).2
      · skip
        refine Seq.pass at2 rfl rfl ?_
        refine Seq.pass at3 rfl rfl ?_
        refine Seq.pass at4 rfl rfl ?_
        refine Seq.pass at5 rfl rfl ?_
        refine Seq.rd0 at6 rfl rfl (O.pickF (v := .bool _) rfl rfl) ?_
        refine Seq.nil ?_
        refine hK38 ?_
        refine Cd.condF rfl ?_
        refine Cd.skip ?_
        refine hK29 ?_
        refine Cd.region [0, 1] rfl ?_
        refine Seq.rd0 at0 rfl rfl (O.add (by exact s24) rfl (by omega) (by omega)) ?_
        refine Seq.rd0 at1 rfl rfl (O.move (v := .int .i64 _) rfl) ?_
        refine Seq.nil ?_
        refine Ent.drop ?_
        exact hK25 _ (by omega) ⟨i + 1, ai, ci, Li, acc, rfl, (by exact s14), (by exact s15), (by exact s16), (by exact s17), (by exact s18), (by exact s19), (by exact s20), (by exact s21), (by exact s22), (by exact s23), rfl, rfl, by omega, by rw [fm_snoc hlt31, ← hac]; unfold hitX; rw [if_neg (by rintro ⟨h8, h9⟩; first | exact Bool.noConfusion (h8.symm.trans (by assumption : _ = false)) | exact Bool.noConfusion (h9.symm.trans (by assumption : _ = false)))]; exact (List.append_nil _).symm, hale, hoi⟩
      · skip
        refine Seq.rd1 at2 rfl rfl (O.loadA kd_45 rfl (Nat.le_of_ble_eq_true rfl) (Key_all _)) Rd.head ?_
        refine Seq.rd1 at3 rfl rfl (O.loadA kd_45 (by exact s16) (Nat.le_of_ble_eq_true rfl) (Key_all _)) Rd.head.cons.cons ?_
        refine Seq.rd1 at4 rfl rfl (O.loadA kd_45 (by exact s17) (Nat.le_of_ble_eq_true rfl) (Key_all _)) Rd.head.cons ?_
        refine Seq.op at5 rfl (Op.callF rfl hb_138 (C_key_Within (x := yq[i]) (y := a) (z := b)) rfl ?_)
        rintro _ _ ⟨rfl, rfl⟩
        refine Seq.rd0 at6 rfl rfl (O.pickT (v := .bool _) rfl rfl) ?_
        refine Seq.nil ?_
        refine hK38 ?_
        refine Cd.cond ((withinK yq[i] a b)) rfl (fun t40 => ?_) (fun t40 => ?_)
        · skip
          refine Cd.region [0, 1, 2, 3, 4, 5, 6] rfl ?_
          refine Seq.rd0 at0 rfl rfl (O.move (v := .slice _ _ _) (by exact s21)) ?_
          refine Seq.rd1 at1 rfl rfl (O.loadA kd_45 rfl (Nat.le_of_ble_eq_true rfl) (Key_all _)) Rd.head ?_
          refine Seq.rd0 at2 rfl rfl (O.move (v := .string _) rfl) ?_
          refine Seq.rd0 at3 rfl rfl (O.build rfl (cs := (Item_enc (⟨yq[i], (seeX l q yq[i]).1⟩ : Item))) (by kernel_rfl)) ?_
          refine Seq.op at4 rfl (Op.new rfl (O.buildSlice (el := 111) rfl (cs := (rows Item_enc [(⟨yq[i], (seeX l q yq[i]).1⟩ : Item)])) (by kernel_rfl)) ?_)
          intro b41 hb41
          refine Seq.op at5 rfl (Op.gen rfl (Eg.perm (O.appendOwnZ (k := 1) (new := rows Item_enc [(⟨yq[i], (seeX l q yq[i]).1⟩ : Item)]) (R := [(b41, _), (b32, _), (b3, _), (b2, _)] ++ (Lq ++ (Lz0 ++ (Lk2 ++ L)))) ei_66 ds_66 (by decide) rfl hoi (.inr ⟨b41, 0, 1, _, _, _, rfl, Rd.head.app, Nat.le_of_ble_eq_true rfl, (rows_all Item_size)⟩) (rows_ones Item_one) (by omega)) (bring (pre := [(b41, _), (b32, _), (b3, _), (b2, _)]) (Ls := Li) (R := (Lq ++ (Lz0 ++ (Lk2 ++ L)))))) ?_)
          rintro v2 _ ⟨Li2, hi2, rfl⟩
          rw [← rows_append, show acc.length + 1 = (acc ++ [(⟨yq[i], (seeX l q yq[i]).1⟩ : Item)]).length from (by rw [List.length_append]; rfl)] at hi2
          obtain ⟨ai2, ci2, rfl⟩ := hi2.form
          refine Ent.perm ?_ (bring (Ls := Li2) (pre := [(b41, _), (b32, _), (b3, _), (b2, _)]) (R := (Lq ++ (Lz0 ++ (Lk2 ++ L))))).symm
          refine Seq.rd0 at6 rfl rfl (O.assign (v := .slice _ _ _) rfl) ?_
          refine Seq.nil ?_
          refine hK29 ?_
          refine Cd.region [0, 1] rfl ?_
          refine Seq.rd0 at0 rfl rfl (O.add (by exact s24) rfl (by omega) (by omega)) ?_
          refine Seq.rd0 at1 rfl rfl (O.move (v := .int .i64 _) rfl) ?_
          refine Seq.nil ?_
          refine Ent.drop ?_
          refine Ent.drop ?_
          exact hK25 _ (by omega) ⟨i + 1, ai2, ci2, Li2, (acc ++ [(⟨yq[i], (seeX l q yq[i]).1⟩ : Item)]), rfl, (by exact s14), (by exact s15), (by exact s16), (by exact s17), (by exact s18), (by exact s19), (by exact s20), rfl, (by exact s22), (by exact s23), rfl, rfl, by omega, by rw [fm_snoc hlt31, ← hac]; congr 1; unfold hitX; rw [if_pos ⟨by assumption, by assumption⟩]; rfl, by rw [List.length_append, List.length_singleton]; omega, hi2⟩
        · skip
          refine Cd.skip ?_
          refine hK29 ?_
          refine Cd.region [0, 1] rfl ?_
          refine Seq.rd0 at0 rfl rfl (O.add (by exact s24) rfl (by omega) (by omega)) ?_
          refine Seq.rd0 at1 rfl rfl (O.move (v := .int .i64 _) rfl) ?_
          refine Seq.nil ?_
          refine Ent.drop ?_
          exact hK25 _ (by omega) ⟨i + 1, ai, ci, Li, acc, rfl, (by exact s14), (by exact s15), (by exact s16), (by exact s17), (by exact s18), (by exact s19), (by exact s20), (by exact s21), (by exact s22), (by exact s23), rfl, rfl, by omega, by rw [fm_snoc hlt31, ← hac]; unfold hitX; rw [if_neg (by rintro ⟨h8, h9⟩; first | exact Bool.noConfusion (h8.symm.trans (by assumption : _ = false)) | exact Bool.noConfusion (h9.symm.trans (by assumption : _ = false)))]; exact (List.append_nil _).symm, hale, hoi⟩
  · skip
    refine Cd.exit ?_
    refine hK8 ?_
    refine Cd.seq (fun K42 hK42 => ?_)
    refine Cd.region [0, 1, 2] rfl ?_
    refine Seq.rd0 at0 rfl rfl (O.move (v := .slice _ _ _) (by exact s21)) ?_
    refine Seq.rd0 at1 rfl rfl (O.assign (v := .slice _ _ _) rfl) ?_
    refine Seq.rd0 at2 rfl rfl (O.assign (v := .int .i64 _) rfl) ?_
    refine Seq.nil ?_
    refine hK42 ?_
    refine Cd.ret ?_
    have hfin := fm_take (m := most.toNat) hac hale (by first | exact .inr (by omega) | exact .inl (by omega))
    have hmy : ∀ k, k ∈ yq ↔ k ∈ l.map Prod.fst ∨ k ∈ q.2.2.map Prod.fst := fun k => by rw [hmq, List.mem_append, hpk1.mem_iff, hpk2.mem_iff]
    exact hR _ (Li ++ L) (Res.two (v := .slice _ _ _) (v' := .int .i64 _) rfl rfl rfl) ⟨yq, acc, Li, ai, ci, rfl, hnq, hmy, hfin, hoi, rfl⟩ (.cons _ (.cons _ ( List.Sublist.append_left (sub_app (sub_app (sub_app (.refl _)))) Li )))

end Go.X

namespace Go.X
open Go.Proofs
theorem kd_111 : kindOf Tryz.prog 111 = some (true, 17) := by kernel_rfl
theorem sl_66 : sliceOf Tryz.prog 66 = some (111, 17) := by kernel_rfl
/-! ## items -/
theorem run_eqKeyIn (a b : Key) (w : World) : (Op.equalIn 9999 45 (.agg (Key_enc a)) (.agg (Key_enc b))).run Tryz.prog w = .ok (decide (a = b)) w := by
  obtain ⟨la, ha⟩ := kk_key.key a
  obtain ⟨lb, hb⟩ := kk_key.key b
  have top : ∀ {v : Value} {l : Lit}, keyOf Tryz.prog 45 v = some l → v.formed Tryz.prog 45 = true ∧ ∃ L, Tryz.prog.keyLits (Tryz.prog.types.size + 1) 45 v.cells.toList = some L ∧ l = .string (keyBytes L) := by
    intro v l h
    unfold keyOf at h
    rw [(by kernel_rfl : Tryz.prog.underlying 45 = some (.array 16 5))] at h
    simp only at h
    split at h
    · rename_i hf
      simp only [Option.map_eq_some_iff] at h
      obtain ⟨L, hl, rfl⟩ := h
      exact ⟨(Bool.and_eq_true_iff.1 hf).2, L, hl, rfl⟩
    · cases h
  obtain ⟨fa, La, ka, rfl⟩ := top ha
  obtain ⟨fb, Lb, kb, rfl⟩ := top hb
  obtain ⟨r, hr, hiff⟩ := run_equalIn_deep (P := Tryz.prog) 9997 2 45 (by kernel_rfl) w _ _ _ _ _ _ fa fb ka kb
  rw [show (9997 + 2 : Nat) = 9999 from rfl] at hr
  have hrd : r = decide (a = b) := by
    rw [Bool.eq_iff_iff, hiff, decide_eq_true_eq]
    constructor
    · rintro rfl
      exact kk_key.inj _ _ (kk_key.law.inj ha hb)
    · rintro rfl
      exact Option.some.inj (ka.symm.trans kb)
  rw [hrd] at hr; exact hr
theorem part_key (x : Item) (w : World) : (part 45 (Item_enc x) 0).run Tryz.prog w = .ok (.agg (Key_enc x.key)) w := by kernel_rfl
theorem part_val (x : Item) (w : World) : (part 9 (Item_enc x) 16).run Tryz.prog w = .ok (.string x.val) w := by kernel_rfl
theorem run_eqItem (x y : Item) (w : World) : (Op.equal 111 (.agg (Item_enc x)) (.agg (Item_enc y))).run Tryz.prog w = .ok (decide (x = y)) w := by
  have hS : Tryz.prog.underlying 111 = some (.struct (Tryz.prog.fieldsOf 111)) := by kernel_rfl
  have hp : Tryz.prog.stoodInHeld 111 = false := by kernel_rfl
  have hdec : decide (x = y) = (decide (x.key = y.key) && decide (x.val = y.val)) := by
    cases x; cases y; rw [Bool.eq_iff_iff]; simp [Item.mk.injEq]
  have hf : (Tryz.prog.fieldsOf 111).toList.map (fun f => (f.name == "_", f.type, f.offset)) = [(false, 45, 0), (false, 9, 16)] := by kernel_rfl
  rw [hdec]
  show (Op.equalIn 10000 111 (.agg (Item_enc x)) (.agg (Item_enc y))).run Tryz.prog w = _
  rw [show (10000 : Nat) = 9999 + 1 from rfl, run_equalIn_agg w 9999 111 _ _ hS hp]
  generalize (Tryz.prog.fieldsOf 111).toList = fs at hf
  obtain ⟨f, g, rfl⟩ : ∃ f g, fs = [f, g] := by
    rcases fs with _ | ⟨f, _ | ⟨g, _ | ⟨h, t⟩⟩⟩
    · exact absurd (congrArg List.length hf) (by simp)
    · exact absurd (congrArg List.length hf) (by simp)
    · exact ⟨f, g, rfl⟩
    · exact absurd (congrArg List.length hf) (by simp)
  simp only [List.map_cons, List.map_nil, List.cons.injEq, Prod.mk.injEq, and_true, beq_eq_false_iff_ne] at hf
  obtain ⟨⟨n1, t1, o1⟩, n2, t2, o2⟩ := hf
  have hstr : (Op.equalIn 9999 9 (.string x.val) (.string y.val)).run Tryz.prog w = .ok (decide (x.val = y.val)) w := by
    rw [show (9999 : Nat) = 9998 + 1 from rfl, run_equalIn_string w 9998 9 _ _ (by kernel_rfl), str_dec]
  simp only [Op.eqFields, n1, n2, ne_eq, not_false_eq_true, if_true, Sem.run_bind, t1, o1, t2, o2, part_key, part_val, Result.andThen_ok, run_eqKeyIn, Sem.run_ite, hstr, Sem.run_pure]
  cases decide (x.key = y.key) <;> cases decide (x.val = y.val) <;> simp
section
variable {e : Env} {d : Option Tmp} {ty : TypeId} {p : String} {af : Array Edge} {g : Option (Nat × Bool)} {x y : Operand} {t' : TypeId} {a b : Item}
theorem neItem (hx : ev e x = .agg (Item_enc a)) (hy : ev e y = .agg (Item_enc b)) : Rn0 Tryz.prog e ⟨d, .binOp .neq 111 x y t', ty, p, af, g⟩ (.bool (!decide (a = b))) := fun w =>
  run_binop hx hy (by simp [eqGuard, (by kernel_rfl : Tryz.prog.eqGuardType Tryz.prog.depth 111 = false)]) (run_neq rfl (run_eqItem a b w))
end

theorem same_some {α : Type} {us vs : List α} {i : Nat} (h1 : i < us.length) (h2 : i < vs.length) (h : ¬ us[i] = vs[i]) : ¬ us = vs := by
  rintro rfl; exact h rfl
theorem same_all {α : Type} {us vs : List α} {i : Nat} (hl : us.length = vs.length) (hi : us.length ≤ i) (h : us.take i = vs.take i) : us = vs := by
  rwa [List.take_of_length_le hi, List.take_of_length_le (by omega)] at h
theorem same_next {α : Type} {us vs : List α} {i : Nat} (h1 : i < us.length) (h2 : i < vs.length) (h : us.take i = vs.take i) (he : us[i] = vs[i]) : us.take (i + 1) = vs.take (i + 1) := by
  rw [← List.take_append_getElem h1, ← List.take_append_getElem h2, h, he]

set_option maxRecDepth 100000 in
set_option maxHeartbeats 2000000 in
theorem C_ref_Items {c : Cx} {L : List Pt} {au aw : Option Addr} {nu cu nv cv : Nat} {us vs : List Item} (hU : SlAt c L Item_enc au nu us) (hV : SlAt c L Item_enc aw nv vs) : Fn Tryz.prog 64 #[.slice au nu cu, .slice aw nv cv] c L (fun v L' => v = .bool (decide (us = vs)) ∧ L' = L) := by
  have hul := hU.len
  have hut := hU.lt
  have hvl := hV.len
  have hvt := hV.lt
  refine Fn.enter Tryz.func64 rfl 26 rfl rfl (fun R hR => ?_)
  refine Cd.seq (fun K1 hK1 => ?_)
  refine Cd.region [0] rfl ?_
  refine Seq.rd0 at0 rfl rfl (O.assign (v := .bool _) rfl) ?_
  refine Seq.nil ?_
  refine hK1 ?_
  refine Cd.seq (fun K2 hK2 => ?_)
  refine Cd.seq (fun K3 hK3 => ?_)
  refine Cd.region [0, 1, 2, 3, 4] rfl ?_
  refine Seq.rd0 at0 rfl rfl (O.move (v := .slice _ _ _) rfl) ?_
  refine Seq.rd0 at1 rfl rfl (O.lenS ds_66 rfl) ?_
  refine Seq.rd0 at2 rfl rfl (O.move (v := .slice _ _ _) rfl) ?_
  refine Seq.rd0 at3 rfl rfl (O.lenS ds_66 rfl) ?_
  refine Seq.rd0 at4 rfl rfl (O.neI rfl rfl) ?_
  refine Seq.nil ?_
  refine hK3 ?_
  refine Cd.ifn ((nu : Int) = (nv : Int)) rfl (fun t4 => ?_) (fun t4 => ?_)
  · skip
    refine Cd.seq (fun K5 hK5 => ?_)
    refine Cd.region [0] rfl ?_
    refine Seq.rd0 at0 rfl rfl (O.assign (v := .bool _) rfl) ?_
    refine Seq.nil ?_
    refine hK5 ?_
    refine Cd.ret ?_
    exact hR _ _ (Res.one (v := .bool _) rfl rfl) ⟨by rw [decide_eq_false (by first | exact same_some (i := i) (by omega) (by omega) (by assumption) | (intro h9; have := congrArg List.length h9; omega))], rfl⟩ (.refl _)
  · skip
    refine Cd.skip ?_
    refine hK2 ?_
    refine Cd.seq (fun K6 hK6 => ?_)
    refine Cd.seq (fun K7 hK7 => ?_)
    refine Cd.region [0] rfl ?_
    refine Seq.rd0 at0 rfl rfl (O.assign (v := .int .i64 _) rfl) ?_
    refine Seq.nil ?_
    refine hK7 ?_
    refine Cd.block ?_
    refine Cd.loop (fun m8 e9 L10 => ∃ i : Nat, m8 = us.length - i ∧ e9 0 = .slice au nu cu ∧ e9 1 = .slice aw nv cv ∧ e9 5 = .int .i64 (i : Int) ∧ L10 = L ∧ i ≤ us.length ∧ us.take i = vs.take i) _ ⟨0, rfl, rfl, rfl, rfl, rfl, Nat.zero_le _, rfl⟩ ?_
    rintro _ e9 _ ⟨i, rfl, s11, s12, s13, rfl, hi, hz⟩ K14 hK14
    refine Cd.seq (fun K15 hK15 => ?_)
    refine Cd.seq (fun K16 hK16 => ?_)
    refine Cd.region [0, 1, 2, 3] rfl ?_
    refine Seq.rd0 at0 rfl rfl (O.move (v := .int .i64 _) (by exact s13)) ?_
    refine Seq.rd0 at1 rfl rfl (O.move (v := .slice _ _ _) (by exact s11)) ?_
    refine Seq.rd0 at2 rfl rfl (O.lenS ds_66 rfl) ?_
    refine Seq.rd0 at3 rfl rfl (O.lss rfl rfl) ?_
    refine Seq.nil ?_
    refine hK16 ?_
    refine Cd.if ((i : Int) < (nu : Int)) rfl (fun t17 => ?_) (fun t17 => ?_)
    · skip
      refine Cd.skip ?_
      refine hK15 ?_
      refine Cd.seq (fun K18 hK18 => ?_)
      refine Cd.block ?_
      refine Cd.seq (fun K19 hK19 => ?_)
      refine Cd.draw 9 rfl po ?_
      refine Any.rd0 0 at0 rfl rfl (O.move (v := .slice _ _ _) (by exact s11)) (by kernel_rfl) (by kernel_rfl) (by kernel_rfl) ?_
      refine Any.rd0 1 at1 rfl rfl (O.move (v := .int .i64 _) (by exact s13)) (by kernel_rfl) (by kernel_rfl) (by kernel_rfl) ?_
      have hlt20 : i < us.length := by omega
      obtain ⟨pre20, sp20, el20, fz20, hav20, hrd20⟩ := hU.at_ hlt20
      refine Any.rd0 2 at2 rfl rfl (O.indexG sl_66 rfl hav20 rfl (by omega) (by omega)) (by kernel_rfl) (by kernel_rfl) (by kernel_rfl) ?_
      refine Any.rd1 3 at3 rfl rfl (O.loadA kd_111 rfl (rowRoomP Item_size (getN hlt20)) (rowAtP Item_size (getN hlt20))) hrd20 (by kernel_rfl) (by kernel_rfl) (by kernel_rfl) ?_
      refine Any.rd0 4 at4 rfl rfl (O.move (v := .slice _ _ _) (by exact s12)) (by kernel_rfl) (by kernel_rfl) (by kernel_rfl) ?_
      refine Any.rd0 5 at5 rfl rfl (O.move (v := .int .i64 _) (by exact s13)) (by kernel_rfl) (by kernel_rfl) (by kernel_rfl) ?_
      have hlt21 : i < vs.length := by omega
      obtain ⟨pre21, sp21, el21, fz21, hav21, hrd21⟩ := hV.at_ hlt21
      refine Any.rd0 6 at6 rfl rfl (O.indexG sl_66 rfl hav21 rfl (by omega) (by omega)) (by kernel_rfl) (by kernel_rfl) (by kernel_rfl) ?_
      refine Any.rd1 7 at7 rfl rfl (O.loadA kd_111 rfl (rowRoomP Item_size (getN hlt21)) (rowAtP Item_size (getN hlt21))) hrd21 (by kernel_rfl) (by kernel_rfl) (by kernel_rfl) ?_
      refine Any.rd0 8 at8 rfl rfl (neItem rfl rfl) (by kernel_rfl) (by kernel_rfl) (by kernel_rfl) ?_
      refine Any.done (by kernel_rfl) ⟨⟨trivial, hrd20⟩, hrd21⟩ ?_
      refine hK19 ?_
      refine Cd.ifn (us[i] = vs[i]) rfl (fun t22 => ?_) (fun t22 => ?_)
      · skip
        refine Cd.seq (fun K23 hK23 => ?_)
        refine Cd.region [0] rfl ?_
        refine Seq.rd0 at0 rfl rfl (O.assign (v := .bool _) rfl) ?_
        refine Seq.nil ?_
        refine hK23 ?_
        refine Cd.ret ?_
        exact hR _ _ (Res.one (v := .bool _) rfl rfl) ⟨by rw [decide_eq_false (by first | exact same_some (i := i) (by omega) (by omega) (by assumption) | (intro h9; have := congrArg List.length h9; omega))], rfl⟩ (.refl _)
      · skip
        refine Cd.skip ?_
        refine hK18 ?_
        refine Cd.region [0, 1, 2] rfl ?_
        refine Seq.rd0 at0 rfl rfl (O.move (v := .int .i64 _) (by exact s13)) ?_
        refine Seq.rd0 at1 rfl rfl (O.add rfl rfl (by omega) (by omega)) ?_
        refine Seq.rd0 at2 rfl rfl (O.assign (v := .int .i64 _) rfl) ?_
        refine Seq.nil ?_
        exact hK14 _ (by omega) ⟨i + 1, rfl, (by exact s11), (by exact s12), rfl, rfl, by omega, same_next (by omega) (by omega) hz (by assumption)⟩
    · skip
      refine Cd.exit ?_
      refine hK6 ?_
      refine Cd.seq (fun K24 hK24 => ?_)
      refine Cd.region [0] rfl ?_
      refine Seq.rd0 at0 rfl rfl (O.assign (v := .bool _) rfl) ?_
      refine Seq.nil ?_
      refine hK24 ?_
      refine Cd.ret ?_
      exact hR _ _ (Res.one (v := .bool _) rfl rfl) ⟨by rw [decide_eq_true (same_all (by omega) (by omega) hz)], rfl⟩ (.refl _)

theorem C_So_Scan {c : Cx} {R Ls : List Pt} {p : Nat} {l : List (Key × CV)} {xl : List (I64 × TX)} {bg la most : Int} {ti : I64} {a b : Key} {q : TX} (hS : SoOwn p l xl bg la Ls) (hl : alook xl ti = some q) :
    Fn Tryz.prog 59 #[.pointer (some ⟨p, 0, none⟩), .int .i64 ti.1, .agg (Key_enc a), .agg (Key_enc b), .int .i64 most] c (Ls ++ R) (fun v L' => ∃ yq its Li ai ci, v = .tuple #[.slice ai its.length ci, .int .i64 0] ∧ KSorted yq ∧ (∀ k, k ∈ yq ↔ k ∈ l.map Prod.fst ∨ k ∈ q.2.2.map Prod.fst) ∧ its = (yq.filterMap (hitX l q a b)).take most.toNat ∧ OwnSl 111 17 (rows Item_enc its) its.length (.slice ai its.length ci) Li ∧ L' = Li ++ (Ls ++ R)) := by
  obtain ⟨sb, lm, es, ck, h1, h2, h3, h4, h5⟩ := hS.rd (c := c) (R := R)
  obtain ⟨mb, es9, ck9, h6, h7, h8, h16⟩ := h5 hl
  obtain ⟨⟨_, _, _, _, _, _, _, h9, _⟩, _⟩ := hS
  exact C_solo_Scan_some h1 h2 h3 h4 h6 h7 h8 hl h9.size h16

end Go.X

/- Plain laws of solo: what is read stays what it was. -/
namespace Go.X
/-! ## the versions up to a time -/
def leV (s : Stamp) (v : Version) : Bool := !decide (0 < v.stamp.cmp s)
theorem upto_tw {s : Stamp} : ∀ {vs : List Version}, Sorted vs → upto vs s = (vs.takeWhile (leV s)).length
  | [], _ => rfl
  | v :: vs, h => by
    have hv := List.pairwise_cons.1 h
    have ih := upto_tw (s := s) hv.2
    have hb : below (v :: vs) s = if v.stamp.cmp s < 0 then below vs s + 1 else 0 := by
      unfold below
      rw [List.takeWhile_cons]
      by_cases h1 : v.stamp.cmp s < 0
      · simp [h1]
      · simp [h1]
    have hh : hasS (v :: vs) s = (decide (v.stamp = s) || hasS vs s) := rfl
    rw [List.takeWhile_cons]
    unfold upto at ih ⊢
    rw [hb, hh]
    rcases Stamp.lt_total v.stamp s with h1 | h1 | h1
    · have h2 : v.stamp.cmp s < 0 := (cmp_neg _ _).2 h1
      have h3 : leV s v = true := by unfold leV; rw [decide_eq_false (by omega)]; rfl
      have h4 : ¬ v.stamp = s := fun e => Stamp.lt_irrefl s (e ▸ h1)
      rw [if_pos h2, if_pos h3, decide_eq_false h4, Bool.false_or, List.length_cons, ← ih]
      split <;> rfl
    · have h2 : v.stamp.cmp s = 0 := (cmp_zero _ _).2 h1
      have h3 : leV s v = true := by unfold leV; rw [decide_eq_false (by omega)]; rfl
      have h5 : vs.takeWhile (leV s) = [] := by
        cases vs with
        | nil => rfl
        | cons w vs =>
          have h6 := (cmp_pos _ _).2 (hv.1 w List.mem_cons_self)
          rw [List.takeWhile_cons, if_neg]
          unfold leV
          rw [h1] at h6
          rw [decide_eq_true h6]; decide
      rw [if_neg (show ¬ v.stamp.cmp s < 0 by omega), if_pos h3, decide_eq_true h1, Bool.true_or, if_pos rfl, List.length_cons, h5]
      rfl
    · have h2 : 0 < v.stamp.cmp s := (cmp_pos _ _).2 h1
      have h3 : ¬ leV s v = true := by unfold leV; rw [decide_eq_true h2]; decide
      have h4 : ¬ v.stamp = s := fun e => Stamp.lt_irrefl s (e ▸ h1)
      have h5 : hasS vs s = false := hasS_no fun w hw e => Stamp.lt_irrefl s (Stamp.lt_trans h1 (by have := hv.1 w hw; rwa [e] at this))
      rw [if_neg (show ¬ v.stamp.cmp s < 0 by omega), if_neg h3, decide_eq_false h4, h5]
      rfl
theorem tw_drop {α : Type} {p : α → Bool} : ∀ {l : List α} {m : Nat}, m ≤ (l.takeWhile p).length → ((l.drop m).takeWhile p).length = (l.takeWhile p).length - m
  | _, 0, _ => by simp
  | [], m + 1, h => by simp at h
  | x :: l, m + 1, h => by
    rw [List.takeWhile_cons] at h ⊢
    split at h
    · rename_i hp
      simp only [List.length_cons] at h
      rw [if_pos hp, List.drop_succ_cons, tw_drop (by omega), List.length_cons]
      omega
    · simp at h
theorem tw_mono {α : Type} {p q : α → Bool} (h : ∀ x, p x = true → q x = true) : ∀ l : List α, (l.takeWhile p).length ≤ (l.takeWhile q).length
  | [] => Nat.le_refl _
  | x :: l => by
    rw [List.takeWhile_cons, List.takeWhile_cons]
    split
    · rename_i hp
      rw [if_pos (h x hp)]
      simp only [List.length_cons]
      have := tw_mono h l
      omega
    · simp
theorem upto_mono {vs : List Version} (hs : Sorted vs) {a b : Stamp} (h : ¬ b.lt a) : upto vs a ≤ upto vs b := by
  rw [upto_tw hs, upto_tw hs]
  refine tw_mono (fun v hv => ?_) vs
  unfold leV at hv ⊢
  rw [Bool.not_eq_true', decide_eq_false_iff_not] at hv ⊢
  rw [cmp_pos] at hv ⊢
  exact fun h1 => by
    rcases Stamp.lt_total a b with h2 | h2 | h2
    · exact hv (Stamp.lt_trans h2 h1)
    · exact hv (h2 ▸ h1)
    · exact h h2
theorem at_drop {vs : List Version} (hs : Sorted vs) {s : Stamp} {m : Nat} (hm : m ≤ upto vs s) : atV (vs.drop m) s = if upto vs s = m then none else atV vs s := by
  have h1 : upto (vs.drop m) s = upto vs s - m := by
    rw [upto_tw (hs.sublist (List.drop_sublist _ _)), upto_tw hs]
    rw [upto_tw hs] at hm
    exact tw_drop hm
  unfold atV
  rw [h1]
  by_cases h2 : upto vs s = m
  · rw [if_pos (by omega), if_pos h2]
  · rw [if_neg (by omega), if_neg h2, if_neg (by omega), List.getElem?_drop]
    congr 1; omega
def viewV (o : Option Version) : ByteArray × Bool := match o with
  | some v => if v.gone then (⟨#[]⟩, false) else (v.val, true)
  | none => (⟨#[]⟩, false)
theorem getV_view (l : List (Key × CV)) (k : Key) (s : Stamp) : getV l k s = viewV (atV (getS l k) s) := rfl
theorem view_trim {vs : List Version} (hs : Sorted vs) {s s0 : Stamp} (h : ¬ s.lt s0) : viewV (atV (vs.drop (trimN vs s0)) s) = viewV (atV vs s) := by
  have hu := upto_mono hs h
  have hle := upto_le (s := s) hs
  unfold trimN
  by_cases hc : 0 < upto vs s0 ∧ ((vs[upto vs s0 - 1]?).getD .zero).gone = false
  · rw [if_pos hc, at_drop hs (by omega), if_neg (by omega)]
  · rw [if_neg hc, at_drop hs hu]
    by_cases he : upto vs s = upto vs s0
    · rw [if_pos he]
      unfold atV
      by_cases h0 : upto vs s = 0
      · rw [if_pos h0]
      · rw [if_neg h0]
        rw [← he] at hc
        rw [List.getElem?_eq_getElem (by omega)] at hc ⊢
        simp only [Option.getD_some] at hc
        cases hg : (vs[upto vs s - 1]'(by omega)).gone with
        | false => exact absurd ⟨by omega, hg⟩ hc
        | true => simp [viewV, hg]
    · rw [if_neg he]
theorem AppS.at_ {c s : Stamp} {l : List (Key × CV)} {ws : List Write} {l' : List (Key × CV)} (h : AppS c l ws l') (hn : ∀ k, Sorted (getS l k)) (hs : s.lt c) (k : Key) : atV (getS l' k) s = atV (getS l k) s := by
  induction h with
  | nil => rfl
  | snoc h ih =>
    rw [getS_put]
    split
    · rename_i he; subst he
      exact (at_after (h.sorted hn _) hs).trans ih
    · exact ih
theorem ComX.getV {l l' : List (Key × CV)} {la la' e : Int} {s r : Stamp} {snap : Stamp} {ws : List (Key × Write)} (hn : ∀ k, Sorted (getS l k)) (h : ComX l la snap ws r e l' la') (hs : ¬ (⟨la, 0⟩ : Stamp).lt s) (k : Key) : getV l' k s = getV l k s := by
  rcases h with ⟨_, _, _, rfl, rfl⟩ | ⟨_, _, _, _, rfl, rfl⟩ | ⟨_, _, ys, _, _, _, h9, h10⟩
  · rfl
  · rfl
  · by_cases he : e = 0
    · rw [getV_view, getV_view, (h10 he).2.2.at_ hn (Stamp.le_lt hs (lt_time (by omega)))]
    · rw [(h9 he).2.1]
/-- what one has put, and what one reads at one's snapshot, stays, whatever the others do -/
theorem Moves.still {nt : Int} {s t : SoS} (h : Moves nt s t) {ti : I64} {q : TX} (hti : ti.1 = nt) (h0 : 0 < nt) (hb : nt ≤ s.bg) (hq : alook s.xl ti = some q) (hs : SInv s) :
    alook t.xl ti = some q ∧ nt ≤ t.bg ∧ ∀ k, getV t.l k q.2.1 = getV s.l k q.2.1 := by
  induction h with
  | refl => exact ⟨hq, hb, fun _ => rfl⟩
  | begin xb h hti' hlen ih =>
    obtain ⟨h1, h2, h3⟩ := ih
    refine ⟨?_, by simp only; omega, h3⟩
    rw [alook_put_ne _ (fun e => by subst e; omega)]
    exact h1
  | put x h hti' ih =>
    obtain ⟨h1, h2, h3⟩ := ih
    refine ⟨?_, h2, h3⟩
    simp only
    unfold afterS
    split
    · exact h1
    · rw [alook_put_ne _ (fun e => hti' ⟨by rw [← e]; exact hti, h0⟩)]
      exact h1
  | commit h hti' hc ih =>
    rename_i t tj r e l' la'
    obtain ⟨h1, h2, h3⟩ := ih
    have hI := h.inv hs
    refine ⟨(alook_del_ne (fun e => hti' ⟨by rw [← e]; exact hti, h0⟩) _).trans h1, h2, fun k => ?_⟩
    rw [← h3 k]
    cases hl : alook t.xl tj with
    | none =>
      rw [hl] at hc
      obtain ⟨_, _, rfl, _⟩ := hc
      rfl
    | some q' =>
      rw [hl] at hc
      exact hc.getV hI.sorted (hI.snap _ (alook_mem h1)) k
  | abort h hti' ih =>
    obtain ⟨h1, h2, h3⟩ := ih
    exact ⟨(alook_del_ne (fun e => hti' ⟨by rw [← e]; exact hti, h0⟩) _).trans h1, h2, h3⟩
  | trim h hl ht ih =>
    obtain ⟨h1, h2, h3⟩ := ih
    have hI := h.inv hs
    refine ⟨h1, h2, fun k => ?_⟩
    rw [← h3 k, getV_view, getV_view, ht.get k]
    exact view_trim (hI.sorted k) (fun h9 => hl.le _ (alook_mem h1) ((cmp_neg _ _).2 h9))
theorem seeX_eq {l l' : List (Key × CV)} {q : TX} (h : ∀ k, getV l' k q.2.1 = getV l k q.2.1) (k : Key) : seeX l' q k = seeX l q k := by
  unfold seeX; split
  · rfl
  · exact h k
theorem ksorted_eq : ∀ {a b : List Key}, KSorted a → KSorted b → (∀ k, k ∈ a ↔ k ∈ b) → a = b
  | [], [], _, _, _ => rfl
  | [], y :: b, _, _, h => absurd ((h y).2 List.mem_cons_self) (by simp)
  | x :: a, [], _, _, h => absurd ((h x).1 List.mem_cons_self) (by simp)
  | x :: a, y :: b, ha, hb, h => by
    have ha' := List.pairwise_cons.1 ha
    have hb' := List.pairwise_cons.1 hb
    have hxy : x = y := by
      rcases List.mem_cons.1 ((h x).1 List.mem_cons_self) with h1 | h1
      · exact h1
      · rcases List.mem_cons.1 ((h y).2 List.mem_cons_self) with h2 | h2
        · exact h2.symm
        · have h3 := hb'.1 x h1
          have h4 := ha'.1 y h2
          have h5 := Key.cmp_swap x y
          omega
    subst hxy
    have hirr : ∀ z : Key, ¬ z.cmp z < 0 := fun z => by have := (Key.cmp_eq (a := z) (b := z)).2 rfl; omega
    rw [ksorted_eq ha'.2 hb'.2 (fun k => ?_)]
    have h1 := h k
    simp only [List.mem_cons] at h1
    constructor
    · intro hk
      rcases h1.1 (.inr hk) with h2 | h2
      · subst h2; exact absurd (ha'.1 _ hk) (hirr _)
      · exact h2
    · intro hk
      rcases h1.2 (.inr hk) with h2 | h2
      · subst h2; exact absurd (hb'.1 _ hk) (hirr _)
      · exact h2
theorem fm_filter {α β : Type} (f : α → Option β) : ∀ l : List α, l.filterMap f = (l.filter fun x => (f x).isSome).filterMap f
  | [] => rfl
  | x :: l => by
    rw [List.filterMap_cons, List.filter_cons]
    cases hf : f x with
    | none => simp [fm_filter f l]
    | some y => simp [hf, fm_filter f l]
theorem see_key {l : List (Key × CV)} {q : TX} {k : Key} (h : (seeX l q k).2 = true) : k ∈ l.map Prod.fst ∨ k ∈ q.2.2.map Prod.fst := by
  unfold seeX at h
  split at h
  · rename_i w hw
    exact .inr (List.mem_map.2 ⟨_, alook_mem hw, rfl⟩)
  · by_cases hk : k ∈ l.map Prod.fst
    · exact .inl hk
    · rw [getV_view, getS_none hk] at h
      cases h
theorem scan_same {l l' : List (Key × CV)} {q : TX} {a b : Key} {ys zs : List Key} (h : ∀ k, getV l' k q.2.1 = getV l k q.2.1) (hy : KSorted ys) (hz : KSorted zs)
    (hmy : ∀ k, k ∈ ys ↔ k ∈ l.map Prod.fst ∨ k ∈ q.2.2.map Prod.fst) (hmz : ∀ k, k ∈ zs ↔ k ∈ l'.map Prod.fst ∨ k ∈ q.2.2.map Prod.fst) : zs.filterMap (hitX l' q a b) = ys.filterMap (hitX l q a b) := by
  have hf : hitX l' q a b = hitX l q a b := by
    funext k; unfold hitX; rw [seeX_eq h k]
  rw [hf, fm_filter, fm_filter _ ys]
  congr 1
  refine ksorted_eq (hz.sublist List.filter_sublist) (hy.sublist List.filter_sublist) (fun k => ?_)
  simp only [List.mem_filter]
  constructor
  · rintro ⟨_, h2⟩
    refine ⟨?_, h2⟩
    unfold hitX at h2
    split at h2
    · rename_i h3; exact (hmy k).2 (see_key h3.1)
    · cases h2
  · rintro ⟨_, h2⟩
    refine ⟨?_, h2⟩
    unfold hitX at h2
    split at h2
    · rename_i h3; exact (hmz k).2 (see_key (by rw [seeX_eq h k]; exact h3.1))
    · cases h2
end Go.X

namespace Go.X
open Go.Proofs
theorem hb_58 : hasBody Tryz.prog 58 = true := by kernel_rfl
theorem hb_59 : hasBody Tryz.prog 59 = true := by kernel_rfl
theorem hb_64 : hasBody Tryz.prog 64 = true := by kernel_rfl
theorem SInv.begin {l : List (Key × CV)} {xl : List (I64 × TX)} {bg la : Int} (h : SInv ⟨l, xl, bg, la⟩) (ti : I64) (xb : Nat) : SInv ⟨l, aput xl ti (xb, (⟨la, 0⟩, [])), bg + 1, la⟩ := by
  refine ⟨h.top, h.sorted, h.nn, fun q hq => ?_⟩
  rcases aput_mem hq with h1 | h1
  · subst h1; exact Stamp.lt_irrefl _
  · exact h.snap q h1
theorem bring3 {A B pre R : List Pt} : (A ++ (B ++ (pre ++ R))).Perm (pre ++ (A ++ (B ++ R))) := by
  refine ((bring (Ls := B) (pre := pre) (R := R)).symm.append_left A).trans ?_
  exact (bring (Ls := A) (pre := pre) (R := B ++ R)).symm
theorem seeP_eq {l l' : List (Key × CV)} {q : TX} (h : ∀ k, getV l' k q.2.1 = getV l k q.2.1) (k : Key) : seeP l' q k = seeP l q k := by
  unfold seeP; rw [seeX_eq h k]

set_option maxRecDepth 100000 in
set_option maxHeartbeats 2000000 in
theorem C_SoloStill {c : Cx} {L : List Pt} {av : Option Addr} {nx cx : Nat} {xs : List SAct} (hX : SlAt c L SAct_enc av nx xs) (hQ : ∀ x ∈ xs, (Lit.int .i64 x.id).wf = true) {aw : Option Addr} {my cx1 : Nat} {ys : List SAct} (hY : SlAt c L SAct_enc aw my ys) (hQ2 : ∀ x ∈ ys, (Lit.int .i64 x.id).wf = true) {kk : Key} : Fn Tryz.prog 10 #[.slice av nx cx, .slice aw my cx1, .agg (Key_enc kk)] c L (fun v L' => v = .bool true ∧ L' = L) := by
  have hwl := hX.len
  have hwt := hX.lt
  have hyl := hY.len
  have hyt := hY.lt
  refine Fn.enter Tryz.func10 rfl 103 rfl rfl (fun R hR => ?_)
  refine Cd.seq (fun K1 hK1 => ?_)
  refine Cd.region [0, 1] rfl ?_
  refine Seq.op at0 rfl (Op.new rfl (O.box (v := .agg _) rfl (cs := (Key_enc kk)) rfl) ?_)
  intro b2 hb2
  refine Seq.rd0 at1 rfl rfl (O.assign (v := .bool _) rfl) ?_
  refine Seq.nil ?_
  refine hK1 ?_
  refine Cd.seq (fun K3 hK3 => ?_)
  refine Cd.seq (fun K4 hK4 => ?_)
  refine Cd.region [0, 1] rfl ?_
  refine Seq.op at0 rfl (Op.callF rfl hb_50 C_awake23 rfl ?_)
  rintro _ L9 ⟨rfl, h9⟩
  rw [h9]
  refine Seq.rd0 at1 rfl rfl (O.not rfl) ?_
  refine Seq.nil ?_
  refine hK4 ?_
  refine Cd.condF rfl ?_
  refine Cd.skip ?_
  refine hK3 ?_
  refine Cd.seq (fun K5 hK5 => ?_)
  refine Cd.seq (fun K6 hK6 => ?_)
  refine Cd.region [0, 1, 2, 3, 4, 5, 6, 7] rfl ?_
  refine Seq.rd0 at0 rfl rfl (O.move (v := .slice _ _ _) rfl) ?_
  refine Seq.rd0 at1 rfl rfl (O.lenS ds_96 rfl) ?_
  refine Seq.rd0 at2 rfl rfl (O.gtr rfl rfl) ?_
  refine Seq.rd0 at3 rfl rfl (O.move (v := .bool _) rfl) ?_
  by_cases t7 : (30 : Int) < (nx : Int)
  · rw [decide_eq_true t7]
    refine Seq.pass at4 rfl rfl ?_
    refine Seq.pass at5 rfl rfl ?_
    refine Seq.pass at6 rfl rfl ?_
    refine Seq.rd0 at7 rfl rfl (O.pickT (v := .bool _) rfl rfl) ?_
    refine Seq.nil ?_
    refine hK6 ?_
    refine Cd.condT rfl ?_
    refine Cd.seq (fun K8 hK8 => ?_)
    refine Cd.region [0] rfl ?_
    refine Seq.rd0 at0 rfl rfl (O.assign (v := .bool _) rfl) ?_
    refine Seq.nil ?_
    refine hK8 ?_
    refine Cd.ret ?_
    exact hR _ L (Res.one (v := .bool _) rfl rfl) ⟨rfl, rfl⟩ (.cons _ (.refl _))
  · rw [decide_eq_false t7]
    refine Seq.rd0 at4 rfl rfl (O.move (v := .slice _ _ _) rfl) ?_
    refine Seq.rd0 at5 rfl rfl (O.lenS ds_96 rfl) ?_
    refine Seq.rd0 at6 rfl rfl (O.gtr rfl rfl) ?_
    refine Seq.rd0 at7 rfl rfl (O.pickF (v := .bool _) rfl rfl) ?_
    refine Seq.nil ?_
    refine hK6 ?_
    refine Cd.if ((30 : Int) < (my : Int)) rfl (fun t9 => ?_) (fun t9 => ?_)
    · skip
      refine Cd.seq (fun K10 hK10 => ?_)
      refine Cd.region [0] rfl ?_
      refine Seq.rd0 at0 rfl rfl (O.assign (v := .bool _) rfl) ?_
      refine Seq.nil ?_
      refine hK10 ?_
      refine Cd.ret ?_
      exact hR _ L (Res.one (v := .bool _) rfl rfl) ⟨rfl, rfl⟩ (.cons _ (.refl _))
    · skip
      refine Cd.skip ?_
      refine hK5 ?_
      refine Cd.seq (fun K11 hK11 => ?_)
      refine Cd.region [0, 1] rfl ?_
      refine Seq.op at0 rfl (Op.callF rfl hb_51 C_solo_New2 rfl ?_)
      rintro _ _ ⟨p, Ls0, rfl, hS0, rfl⟩
      refine Seq.rd0 at1 rfl rfl (O.assign (v := .pointer _) rfl) ?_
      refine Seq.nil ?_
      refine hK11 ?_
      refine Cd.seq (fun K12 hK12 => ?_)
      refine Cd.region [0, 1, 2] rfl ?_
      refine Seq.rd0 at0 rfl rfl (O.move (v := .pointer _) rfl) ?_
      refine Seq.rd0 at1 rfl rfl (O.move (v := .slice _ _ _) rfl) ?_
      refine Seq.op at2 rfl (Op.callF rfl hb_52 (Fn.perm (C_play (L := ([]) ++ ((b2, .cells (Key_enc kk) 45 (0, 0)) :: L)) (N := 50) (nt := 0) hS0 (hX.cons) hQ (by omega) (by simp) (by omega) (by omega)) (bring (pre := ([])) (Ls := Ls0) (R := ((b2, .cells (Key_enc kk) 45 (0, 0)) :: L)))) rfl ?_)
      rintro _ _ ⟨l1, xl1, bg1, la1, Ls1, hS1, hM, hx1, hb1, ha1, rfl⟩
      have hI := hM.inv SInv.new
      have hnum := hS1.num
      have hib : (Lit.int .i64 (bg1 + 1)).wf = true := wfI (by omega) (by omega)
      refine Ent.perm ?_ (bring (Ls := Ls1) (pre := ([])) (R := ((b2, .cells (Key_enc kk) 45 (0, 0)) :: L))).symm
      refine Seq.nil ?_
      refine hK12 ?_
      refine Cd.seq (fun K13 hK13 => ?_)
      refine Cd.region [0, 1, 2, 3, 4, 5, 6] rfl ?_
      refine Seq.rd0 at0 rfl rfl (O.move (v := .pointer _) rfl) ?_
      refine Seq.op at1 rfl (Op.callF rfl hb_53 (Fn.perm (C_So_Begin (R := ([]) ++ ((b2, .cells (Key_enc kk) 45 (0, 0)) :: L)) (ti := ⟨bg1 + 1, hib⟩) hS1 rfl (by omega) (by omega)) (bring (pre := ([])) (Ls := Ls1) (R := ((b2, .cells (Key_enc kk) 45 (0, 0)) :: L)))) rfl ?_)
      rintro _ _ ⟨rfl, xa, LsA, hSA, rfl⟩
      have hxa := aput_le (⟨bg1 + 1, hib⟩ : I64) (xa, ((⟨la1, 0⟩ : Stamp), ([] : List (Key × Write)))) xl1
      have hIA := hI.begin (⟨bg1 + 1, hib⟩ : I64) xa
      have hlA : alook (aput xl1 (⟨bg1 + 1, hib⟩ : I64) (xa, (⟨la1, 0⟩, []))) (⟨bg1 + 1, hib⟩ : I64) = some (xa, (⟨la1, 0⟩, [])) := alook_put_same _ _ _
      generalize hg : (aput xl1 (⟨bg1 + 1, hib⟩ : I64) (xa, (⟨la1, 0⟩, []))) = xlA at hSA hlA hIA hxa
      generalize hgq : ((xa, (⟨la1, 0⟩, [])) : TX) = qA at hlA
      have hxA : xlA.length ≤ 51 := by omega
      refine Ent.perm ?_ (bring (Ls := LsA) (pre := ([])) (R := ((b2, .cells (Key_enc kk) 45 (0, 0)) :: L))).symm
      refine Seq.rd0 at2 rfl rfl (O.move (v := .tuple _) rfl) ?_
      refine Seq.rd0 at3 rfl rfl (O.ext rfl r2_0) ?_
      refine Seq.rd0 at4 rfl rfl (O.ext rfl r2_1) ?_
      refine Seq.rd0 at5 rfl rfl (O.assign (v := .int .i64 _) rfl) ?_
      refine Seq.rd0 at6 rfl rfl (O.assign (v := .int .i64 _) rfl) ?_
      refine Seq.nil ?_
      refine hK13 ?_
      refine Cd.seq (fun K14 hK14 => ?_)
      refine Cd.seq (fun K15 hK15 => ?_)
      refine Cd.region [0, 1] rfl ?_
      refine Seq.rd0 at0 rfl rfl (O.move (v := .int .i64 _) rfl) ?_
      refine Seq.rd0 at1 rfl rfl (O.neI rfl rfl) ?_
      refine Seq.nil ?_
      refine hK15 ?_
      refine Cd.ifn ((0 : Int) = 0) rfl (fun t16 => ?_) (fun t16 => ?_)
      · skip
        exact absurd rfl t16
      · skip
        refine Cd.skip ?_
        refine hK14 ?_
        refine Cd.seq (fun K17 hK17 => ?_)
        refine Cd.region [0, 1, 2, 3, 4, 5, 6, 7, 8, 9, 10] rfl ?_
        refine Seq.rd0 at0 rfl rfl (O.move (v := .pointer _) rfl) ?_
        refine Seq.rd0 at1 rfl rfl (O.move (v := .int .i64 _) rfl) ?_
        refine Seq.rd1 at2 rfl rfl (O.loadA kd_45 rfl (Nat.le_of_ble_eq_true rfl) (Key_all _)) Rd.head.app ?_
        refine Seq.op at3 rfl (Op.callF rfl hb_58 (Fn.perm (C_So_Get (R := ([]) ++ ((b2, .cells (Key_enc kk) 45 (0, 0)) :: L)) (ti := (⟨bg1 + 1, hib⟩ : I64)) (k := kk) hSA hlA) (bring (pre := ([])) (Ls := LsA) (R := ((b2, .cells (Key_enc kk) 45 (0, 0)) :: L)))) rfl ?_)
        rintro _ _ ⟨rfl, rfl⟩
        refine Ent.perm ?_ (bring (Ls := LsA) (pre := ([])) (R := ((b2, .cells (Key_enc kk) 45 (0, 0)) :: L))).symm
        refine Seq.rd0 at4 rfl rfl (O.move (v := .tuple _) rfl) ?_
        refine Seq.rd0 at5 rfl rfl (O.ext rfl r3_0) ?_
        refine Seq.rd0 at6 rfl rfl (O.ext rfl r3_1) ?_
        refine Seq.rd0 at7 rfl rfl (O.ext rfl r3_2) ?_
        refine Seq.rd0 at8 rfl rfl (O.assign (v := .string _) rfl) ?_
        refine Seq.rd0 at9 rfl rfl (O.assign (v := .bool _) rfl) ?_
        refine Seq.rd0 at10 rfl rfl (O.assign (v := .int .i64 _) rfl) ?_
        refine Seq.nil ?_
        refine hK17 ?_
        refine Cd.seq (fun K18 hK18 => ?_)
        refine Cd.region [0, 1, 2, 3, 4, 5, 6, 7, 8, 9] rfl ?_
        refine Seq.rd0 at0 rfl rfl (O.move (v := .pointer _) rfl) ?_
        refine Seq.rd0 at1 rfl rfl (O.move (v := .int .i64 _) rfl) ?_
        refine Seq.rd0 at2 rfl rfl (O.build rfl (cs := (Key_enc Key.zero)) (by kernel_rfl)) ?_
        refine Seq.rd0 at3 rfl rfl (O.build rfl (cs := (Key_enc Key.zero)) (by kernel_rfl)) ?_
        refine Seq.op at4 rfl (Op.callF rfl hb_59 (Fn.perm (C_So_Scan (R := ([]) ++ ((b2, .cells (Key_enc kk) 45 (0, 0)) :: L)) (ti := (⟨bg1 + 1, hib⟩ : I64)) (a := .zero) (b := .zero) (most := 300) hSA hlA) (bring (pre := ([])) (Ls := LsA) (R := ((b2, .cells (Key_enc kk) 45 (0, 0)) :: L)))) rfl ?_)
        rintro _ _ ⟨yq1, its1, Li1, ai1, ci1, rfl, hny1, hmy1, hits1, hoi1, rfl⟩
        refine Ent.perm ?_ (bring3 (A := Li1) (B := LsA) (pre := ([])) (R := ((b2, .cells (Key_enc kk) 45 (0, 0)) :: L)))
        have hl300 : its1.length < 4611686018427387904 := by rw [hits1]; exact Nat.lt_of_le_of_lt (List.length_take_le _ _) (by decide)
        refine Seq.rd0 at5 rfl rfl (O.move (v := .tuple _) rfl) ?_
        refine Seq.rd0 at6 rfl rfl (O.ext rfl r2_0) ?_
        refine Seq.rd0 at7 rfl rfl (O.ext rfl r2_1) ?_
        refine Seq.rd0 at8 rfl rfl (O.assign (v := .slice _ _ _) rfl) ?_
        refine Seq.rd0 at9 rfl rfl (O.assign (v := .int .i64 _) rfl) ?_
        refine Seq.nil ?_
        refine hK18 ?_
        refine Cd.seq (fun K19 hK19 => ?_)
        refine Cd.region [0, 1, 2, 3] rfl ?_
        refine Seq.rd0 at0 rfl rfl (O.move (v := .pointer _) rfl) ?_
        refine Seq.rd0 at1 rfl rfl (O.move (v := .slice _ _ _) rfl) ?_
        refine Seq.rd0 at2 rfl rfl (O.move (v := .int .i64 _) rfl) ?_
        refine Seq.op at3 rfl (Op.callF rfl hb_52 (Fn.perm (C_play (L := (Li1) ++ ((b2, .cells (Key_enc kk) 45 (0, 0)) :: L)) (N := 51) (nt := bg1 + 1) hSA (hY.cons.app) hQ2 (by omega) (by omega) (by omega) (by omega)) (bring (pre := (Li1)) (Ls := LsA) (R := ((b2, .cells (Key_enc kk) 45 (0, 0)) :: L)))) rfl ?_)
        rintro _ _ ⟨l2, xl2, bg2, la2, Ls2, hS2, hM2, hx2, hb2, ha2, rfl⟩
        obtain ⟨hl2, _, hst⟩ := hM2.still (ti := (⟨bg1 + 1, hib⟩ : I64)) rfl (by omega) (Int.le_refl _) hlA hIA
        refine Ent.perm ?_ (bring (Ls := Ls2) (pre := (Li1)) (R := ((b2, .cells (Key_enc kk) 45 (0, 0)) :: L))).symm
        refine Seq.nil ?_
        refine hK19 ?_
        refine Cd.seq (fun K20 hK20 => ?_)
        refine Cd.region [0, 1, 2, 3, 4, 5, 6, 7, 8, 9, 10] rfl ?_
        refine Seq.rd0 at0 rfl rfl (O.move (v := .pointer _) rfl) ?_
        refine Seq.rd0 at1 rfl rfl (O.move (v := .int .i64 _) rfl) ?_
        refine Seq.rd1 at2 rfl rfl (O.loadA kd_45 rfl (Nat.le_of_ble_eq_true rfl) (Key_all _)) Rd.head.app.app ?_
        refine Seq.op at3 rfl (Op.callF rfl hb_58 (Fn.perm (C_So_Get (R := (Li1) ++ ((b2, .cells (Key_enc kk) 45 (0, 0)) :: L)) (ti := (⟨bg1 + 1, hib⟩ : I64)) (k := kk) hS2 hl2) (bring (pre := (Li1)) (Ls := Ls2) (R := ((b2, .cells (Key_enc kk) 45 (0, 0)) :: L)))) rfl ?_)
        rintro _ _ ⟨rfl, rfl⟩
        refine Ent.perm ?_ (bring (Ls := Ls2) (pre := (Li1)) (R := ((b2, .cells (Key_enc kk) 45 (0, 0)) :: L))).symm
        rw [seeP_eq hst kk]
        refine Seq.rd0 at4 rfl rfl (O.move (v := .tuple _) rfl) ?_
        refine Seq.rd0 at5 rfl rfl (O.ext rfl r3_0) ?_
        refine Seq.rd0 at6 rfl rfl (O.ext rfl r3_1) ?_
        refine Seq.rd0 at7 rfl rfl (O.ext rfl r3_2) ?_
        refine Seq.rd0 at8 rfl rfl (O.assign (v := .string _) rfl) ?_
        refine Seq.rd0 at9 rfl rfl (O.assign (v := .bool _) rfl) ?_
        refine Seq.rd0 at10 rfl rfl (O.assign (v := .int .i64 _) rfl) ?_
        refine Seq.nil ?_
        refine hK20 ?_
        refine Cd.seq (fun K21 hK21 => ?_)
        refine Cd.region [0, 1, 2, 3, 4, 5, 6, 7, 8, 9] rfl ?_
        refine Seq.rd0 at0 rfl rfl (O.move (v := .pointer _) rfl) ?_
        refine Seq.rd0 at1 rfl rfl (O.move (v := .int .i64 _) rfl) ?_
        refine Seq.rd0 at2 rfl rfl (O.build rfl (cs := (Key_enc Key.zero)) (by kernel_rfl)) ?_
        refine Seq.rd0 at3 rfl rfl (O.build rfl (cs := (Key_enc Key.zero)) (by kernel_rfl)) ?_
        refine Seq.op at4 rfl (Op.callF rfl hb_59 (Fn.perm (C_So_Scan (R := (Li1) ++ ((b2, .cells (Key_enc kk) 45 (0, 0)) :: L)) (ti := (⟨bg1 + 1, hib⟩ : I64)) (a := .zero) (b := .zero) (most := 300) hS2 hl2) (bring (pre := (Li1)) (Ls := Ls2) (R := ((b2, .cells (Key_enc kk) 45 (0, 0)) :: L)))) rfl ?_)
        rintro _ _ ⟨yq2, its2, Li2, ai2, ci2, rfl, hny2, hmy2, hits2, hoi2, rfl⟩
        refine Ent.perm ?_ (bring3 (A := Li2) (B := Ls2) (pre := (Li1)) (R := ((b2, .cells (Key_enc kk) 45 (0, 0)) :: L)))
        obtain rfl : its2 = its1 := by rw [hits2, hits1, scan_same hst hny1 hny2 hmy1 hmy2]
        refine Seq.rd0 at5 rfl rfl (O.move (v := .tuple _) rfl) ?_
        refine Seq.rd0 at6 rfl rfl (O.ext rfl r2_0) ?_
        refine Seq.rd0 at7 rfl rfl (O.ext rfl r2_1) ?_
        refine Seq.rd0 at8 rfl rfl (O.assign (v := .slice _ _ _) rfl) ?_
        refine Seq.rd0 at9 rfl rfl (O.assign (v := .int .i64 _) rfl) ?_
        refine Seq.nil ?_
        refine hK21 ?_
        refine Cd.seq (fun K22 hK22 => ?_)
        refine Cd.region [0, 1, 2, 3, 4, 5, 6, 7, 8, 9, 10, 11, 12, 13, 14, 15, 16, 17, 18, 19, 20, 21, 22, 23, 24, 25, 26] rfl ?_
        refine Seq.rd0 at0 rfl rfl (O.move (v := .int .i64 _) rfl) ?_
        refine Seq.rd0 at1 rfl rfl (O.move (v := .int .i64 _) rfl) ?_
        refine Seq.rd0 at2 rfl rfl (O.eqI rfl rfl) ?_
        refine Seq.rd0 at3 rfl rfl (O.move (v := .bool _) rfl) ?_
        have t23 : (seeP l1 qA kk).2.2 = (seeP l1 qA kk).2.2 := rfl
        rw [decide_eq_true t23]
        refine Seq.rd0 at4 rfl rfl (O.move (v := .int .i64 _) rfl) ?_
        refine Seq.rd0 at5 rfl rfl (O.eqI rfl rfl) ?_
        refine Seq.rd0 at6 rfl rfl (O.pickT (v := .bool _) rfl rfl) ?_
        refine Seq.rd0 at7 rfl rfl (O.move (v := .bool _) rfl) ?_
        have t24 : (0 : Int) = 0 := rfl
        rw [decide_eq_true t24]
        refine Seq.rd0 at8 rfl rfl (O.move (v := .int .i64 _) rfl) ?_
        refine Seq.rd0 at9 rfl rfl (O.eqI rfl rfl) ?_
        refine Seq.rd0 at10 rfl rfl (O.pickT (v := .bool _) rfl rfl) ?_
        refine Seq.rd0 at11 rfl rfl (O.move (v := .bool _) rfl) ?_
        have t25 : (0 : Int) = 0 := rfl
        rw [decide_eq_true t25]
        refine Seq.rd0 at12 rfl rfl (O.move (v := .string _) rfl) ?_
        refine Seq.rd0 at13 rfl rfl (O.move (v := .string _) rfl) ?_
        refine Seq.rd0 at14 rfl rfl (O.eqS rfl rfl) ?_
        refine Seq.rd0 at15 rfl rfl (O.pickT (v := .bool _) rfl rfl) ?_
        refine Seq.rd0 at16 rfl rfl (O.move (v := .bool _) rfl) ?_
        have t26 : (seeP l1 qA kk).1 = (seeP l1 qA kk).1 := rfl
        rw [decide_eq_true t26]
        refine Seq.rd0 at17 rfl rfl (O.move (v := .bool _) rfl) ?_
        refine Seq.rd0 at18 rfl rfl (O.move (v := .bool _) rfl) ?_
        refine Seq.rd0 at19 rfl rfl (O.eqB ds_4 rfl rfl) ?_
        refine Seq.rd0 at20 rfl rfl (O.pickT (v := .bool _) rfl rfl) ?_
        refine Seq.rd0 at21 rfl rfl (O.move (v := .bool _) rfl) ?_
        have t27 : ((seeP l1 qA kk).2.1 == (seeP l1 qA kk).2.1) = true := beq_self_eq_true _
        rw [t27]
        refine Seq.rd0 at22 rfl rfl (O.move (v := .slice _ _ _) rfl) ?_
        refine Seq.rd0 at23 rfl rfl (O.move (v := .slice _ _ _) rfl) ?_
        refine Seq.op at24 rfl (Op.callF rfl hb_64 (C_ref_Items ((OwnSl.at_ (R := (Li2 ++ ((Ls2 ++ ((b2, .cells (Key_enc kk) 45 (0, 0)) :: L))))) hoi1 rfl hl300)) ((OwnSl.at_ (R := (Ls2 ++ ((b2, .cells (Key_enc kk) 45 (0, 0)) :: L))) hoi2 rfl hl300).app)) rfl ?_)
        rintro _ _ ⟨rfl, rfl⟩
        rw [decide_eq_true rfl]
        refine Seq.rd0 at25 rfl rfl (O.pickT (v := .bool _) rfl rfl) ?_
        refine Seq.rd0 at26 rfl rfl (O.assign (v := .bool _) rfl) ?_
        refine Seq.nil ?_
        refine hK22 ?_
        refine Cd.ret ?_
        exact hR _ L (Res.one (v := .bool _) rfl rfl) ⟨rfl, rfl⟩ (sub_app (G := Li1) (sub_app (G := Li2) (sub_app (G := Ls2) (.cons _ (.refl _)))))

end Go.X
