/- Part 10 of the proofs over this program: what its functions compute. -/
import Derived.Test.YthifdialndcemaaGreatProg
import Derived.Test.YthifdialndcemaaGreatS9
set_option linter.unusedVariables false
set_option linter.unusedSimpArgs false

namespace Go.X
open Go.Proofs
theorem ds_4 : isDesc Tryz.prog 4 = 1 := by kernel_rfl
theorem hb_21 : hasBody Tryz.prog 21 = true := by kernel_rfl
section
variable {a b : Stamp}
theorem cm_neg (h : a.t < b.t ∨ (a.t = b.t ∧ a.n < b.n)) : a.cmp b = -1 := by unfold Stamp.cmp cmpI; split <;> (try split) <;> (try split) <;> (try split) <;> omega
theorem cm_zero (h : a = b) : a.cmp b = 0 := by subst h; unfold Stamp.cmp cmpI; simp
theorem cm_pos (h : ¬ (a.t < b.t ∨ (a.t = b.t ∧ a.n < b.n))) (h2 : ¬ a = b) : a.cmp b = 1 := by
  have h3 : ¬ (a.t = b.t ∧ a.n = b.n) := fun ⟨h4, h5⟩ => h2 (by cases a; cases b; simp_all)
  unfold Stamp.cmp cmpI; split <;> (try split) <;> (try split) <;> (try split) <;> omega
end

set_option maxRecDepth 100000 in
set_option maxHeartbeats 2000000 in
theorem C_ref6_Cmp {c : Cx} {L : List Pt} {a b : Stamp} : Fn Tryz.prog 21 #[.agg (Stamp_enc a), .agg (Stamp_enc b)] c L (fun v L' => v = .int .i64 (a.cmp b) ∧ L' = L) := by
  refine Fn.enter Tryz.func21 rfl 29 rfl rfl (fun R hR => ?_)
  refine Cd.seq (fun K1 hK1 => ?_)
  refine Cd.region [0, 1, 2] rfl ?_
  refine Seq.op at0 rfl (Op.new rfl (O.box (v := .agg _) rfl (cs := (Stamp_enc a)) rfl) ?_)
  intro b2 hb2
  refine Seq.op at1 rfl (Op.new rfl (O.box (v := .agg _) rfl (cs := (Stamp_enc b)) rfl) ?_)
  intro b3 hb3
  refine Seq.rd0 at2 rfl rfl (O.assign (v := .int .i64 _) rfl) ?_
  refine Seq.nil ?_
  refine hK1 ?_
  refine Cd.seq (fun K4 hK4 => ?_)
  refine Cd.block ?_
  refine Cd.seq (fun K5 hK5 => ?_)
  refine Cd.region [0, 1, 2, 3, 4, 5, 6, 7, 8, 9, 10, 11, 12, 13, 14, 15, 16, 17, 18, 19] rfl ?_
  refine Seq.rd0 at0 rfl rfl (O.field fo_24_0 rfl) ?_
  refine Seq.rd1 at1 rfl rfl (O.load kd_2 rfl (Stamp_t _)) Rd.head.cons ?_
  refine Seq.rd0 at2 rfl rfl (O.field fo_24_0 rfl) ?_
  refine Seq.rd1 at3 rfl rfl (O.load kd_2 rfl (Stamp_t _)) Rd.head ?_
  refine Seq.rd0 at4 rfl rfl (O.lss rfl rfl) ?_
  refine Seq.rd0 at5 rfl rfl (O.move (v := .bool _) rfl) ?_
  by_cases t6 : a.t < b.t
  · rw [decide_eq_true t6]
    refine Seq.pass at6 rfl rfl ?_
    refine Seq.pass at7 rfl rfl ?_
    refine Seq.pass at8 rfl rfl ?_
    refine Seq.pass at9 rfl rfl ?_
    refine Seq.pass at10 rfl rfl ?_
    refine Seq.pass at11 rfl rfl ?_
    refine Seq.pass at12 rfl rfl ?_
    refine Seq.pass at13 rfl rfl ?_
    refine Seq.pass at14 rfl rfl ?_
    refine Seq.pass at15 rfl rfl ?_
    refine Seq.pass at16 rfl rfl ?_
    refine Seq.pass at17 rfl rfl ?_
    refine Seq.rd0 at18 rfl rfl (O.pickT (v := .bool _) rfl rfl) ?_
    refine Seq.rd0 at19 rfl rfl (O.assign (v := .bool _) rfl) ?_
    refine Seq.nil ?_
    refine hK5 ?_
    refine Cd.condT rfl ?_
    refine Cd.seq (fun K7 hK7 => ?_)
    refine Cd.region [0] rfl ?_
    refine Seq.rd0 at0 rfl rfl (O.assign (v := .int .i64 _) rfl) ?_
    refine Seq.nil ?_
    refine hK7 ?_
    refine Cd.ret ?_
    exact hR _ _ (Res.one (v := .int .i64 _) rfl rfl) ⟨congrArg (Value.int .i64) (Eq.symm (by exact cm_neg (by omega))), rfl⟩ (.cons _ (.cons _ (.refl _)))
  · rw [decide_eq_false t6]
    refine Seq.rd0 at6 rfl rfl (O.field fo_24_0 rfl) ?_
    refine Seq.rd1 at7 rfl rfl (O.load kd_2 rfl (Stamp_t _)) Rd.head.cons ?_
    refine Seq.rd0 at8 rfl rfl (O.field fo_24_0 rfl) ?_
    refine Seq.rd1 at9 rfl rfl (O.load kd_2 rfl (Stamp_t _)) Rd.head ?_
    refine Seq.rd0 at10 rfl rfl (O.eqI rfl rfl) ?_
    refine Seq.rd0 at11 rfl rfl (O.move (v := .bool _) rfl) ?_
    by_cases t8 : a.t = b.t
    · rw [decide_eq_true t8]
      refine Seq.rd0 at12 rfl rfl (O.field fo_24_1 rfl) ?_
      refine Seq.rd1 at13 rfl rfl (O.load kd_5 rfl (Stamp_n _)) Rd.head.cons ?_
      refine Seq.rd0 at14 rfl rfl (O.field fo_24_1 rfl) ?_
      refine Seq.rd1 at15 rfl rfl (O.load kd_5 rfl (Stamp_n _)) Rd.head ?_
      refine Seq.rd0 at16 rfl rfl (O.lss rfl rfl) ?_
      refine Seq.rd0 at17 rfl rfl (O.pickT (v := .bool _) rfl rfl) ?_
      refine Seq.rd0 at18 rfl rfl (O.pickF (v := .bool _) rfl rfl) ?_
      refine Seq.rd0 at19 rfl rfl (O.assign (v := .bool _) rfl) ?_
      refine Seq.nil ?_
      refine hK5 ?_
      refine Cd.if (a.n < b.n) rfl (fun t9 => ?_) (fun t9 => ?_)
      · skip
        refine Cd.seq (fun K10 hK10 => ?_)
        refine Cd.region [0] rfl ?_
        refine Seq.rd0 at0 rfl rfl (O.assign (v := .int .i64 _) rfl) ?_
        refine Seq.nil ?_
        refine hK10 ?_
        refine Cd.ret ?_
        exact hR _ _ (Res.one (v := .int .i64 _) rfl rfl) ⟨congrArg (Value.int .i64) (Eq.symm (by exact cm_neg (by omega))), rfl⟩ (.cons _ (.cons _ (.refl _)))
      · skip
        refine Cd.seq (fun K11 hK11 => ?_)
        refine Cd.region [0, 1, 2, 3] rfl ?_
        refine Seq.rd1 at0 rfl rfl (O.loadA kd_24 rfl (Nat.le_of_ble_eq_true rfl) (Stamp_all _)) Rd.head.cons ?_
        refine Seq.rd1 at1 rfl rfl (O.loadA kd_24 rfl (Nat.le_of_ble_eq_true rfl) (Stamp_all _)) Rd.head ?_
        refine Seq.rd0 at2 rfl rfl (eqStamp rfl rfl) ?_
        refine Seq.rd0 at3 rfl rfl (O.assign (v := .bool _) rfl) ?_
        refine Seq.nil ?_
        refine hK11 ?_
        refine Cd.if (a = b) rfl (fun t12 => ?_) (fun t12 => ?_)
        · skip
          refine Cd.seq (fun K13 hK13 => ?_)
          refine Cd.region [0] rfl ?_
          refine Seq.rd0 at0 rfl rfl (O.assign (v := .int .i64 _) rfl) ?_
          refine Seq.nil ?_
          refine hK13 ?_
          refine Cd.ret ?_
          exact hR _ _ (Res.one (v := .int .i64 _) rfl rfl) ⟨congrArg (Value.int .i64) (Eq.symm (by exact cm_zero (by assumption))), rfl⟩ (.cons _ (.cons _ (.refl _)))
        · skip
          refine Cd.skip ?_
          refine hK4 ?_
          refine Cd.seq (fun K14 hK14 => ?_)
          refine Cd.region [0] rfl ?_
          refine Seq.rd0 at0 rfl rfl (O.assign (v := .int .i64 _) rfl) ?_
          refine Seq.nil ?_
          refine hK14 ?_
          refine Cd.ret ?_
          exact hR _ _ (Res.one (v := .int .i64 _) rfl rfl) ⟨congrArg (Value.int .i64) (Eq.symm (by exact cm_pos (by omega) (by assumption))), rfl⟩ (.cons _ (.cons _ (.refl _)))
    · rw [decide_eq_false t8]
      refine Seq.pass at12 rfl rfl ?_
      refine Seq.pass at13 rfl rfl ?_
      refine Seq.pass at14 rfl rfl ?_
      refine Seq.pass at15 rfl rfl ?_
      refine Seq.pass at16 rfl rfl ?_
      refine Seq.rd0 at17 rfl rfl (O.pickF (v := .bool _) rfl rfl) ?_
      refine Seq.rd0 at18 rfl rfl (O.pickF (v := .bool _) rfl rfl) ?_
      refine Seq.rd0 at19 rfl rfl (O.assign (v := .bool _) rfl) ?_
      refine Seq.nil ?_
      refine hK5 ?_
      refine Cd.condF rfl ?_
      refine Cd.seq (fun K15 hK15 => ?_)
      refine Cd.region [0, 1, 2, 3] rfl ?_
      refine Seq.rd1 at0 rfl rfl (O.loadA kd_24 rfl (Nat.le_of_ble_eq_true rfl) (Stamp_all _)) Rd.head.cons ?_
      refine Seq.rd1 at1 rfl rfl (O.loadA kd_24 rfl (Nat.le_of_ble_eq_true rfl) (Stamp_all _)) Rd.head ?_
      refine Seq.rd0 at2 rfl rfl (eqStamp rfl rfl) ?_
      refine Seq.rd0 at3 rfl rfl (O.assign (v := .bool _) rfl) ?_
      refine Seq.nil ?_
      refine hK15 ?_
      refine Cd.if (a = b) rfl (fun t16 => ?_) (fun t16 => ?_)
      · skip
        refine Cd.seq (fun K17 hK17 => ?_)
        refine Cd.region [0] rfl ?_
        refine Seq.rd0 at0 rfl rfl (O.assign (v := .int .i64 _) rfl) ?_
        refine Seq.nil ?_
        refine hK17 ?_
        refine Cd.ret ?_
        exact hR _ _ (Res.one (v := .int .i64 _) rfl rfl) ⟨congrArg (Value.int .i64) (Eq.symm (by exact cm_zero (by assumption))), rfl⟩ (.cons _ (.cons _ (.refl _)))
      · skip
        refine Cd.skip ?_
        refine hK4 ?_
        refine Cd.seq (fun K18 hK18 => ?_)
        refine Cd.region [0] rfl ?_
        refine Seq.rd0 at0 rfl rfl (O.assign (v := .int .i64 _) rfl) ?_
        refine Seq.nil ?_
        refine hK18 ?_
        refine Cd.ret ?_
        exact hR _ _ (Res.one (v := .int .i64 _) rfl rfl) ⟨congrArg (Value.int .i64) (Eq.symm (by exact cm_pos (by omega) (by assumption))), rfl⟩ (.cons _ (.cons _ (.refl _)))

set_option maxRecDepth 100000 in
set_option maxHeartbeats 2000000 in
theorem C_PartStill {c : Cx} {L : List Pt} {av : Option Addr} {nx cx : Nat} {xs : List Act} (hX : SlAt c L Act_enc av nx xs) (hQ : ∀ x ∈ xs, ActOk c L x) {kk : Key} {s0 : Stamp} {aw : Option Addr} {ny cy : Nat} {ys : List Act} (hY : SlAt c L Act_enc aw ny ys) (hQ2 : ∀ x ∈ ys, ActOk c L x) : Fn Tryz.prog 4 #[.slice av nx cx, .agg (Key_enc kk), .agg (Stamp_enc s0), .slice aw ny cy] c L (fun v L' => v = .bool true ∧ L' = L) := by
  have hwl := hX.len
  have hwt := hX.lt
  have hwl2 := hY.len
  have hwt2 := hY.lt
  refine Fn.enter Tryz.func4 rfl 155 rfl rfl (fun R hR => ?_)
  refine Cd.seq (fun K1 hK1 => ?_)
  refine Cd.region [0, 1, 2] rfl ?_
  refine Seq.op at0 rfl (Op.new rfl (O.box (v := .agg _) rfl (cs := (Key_enc kk)) rfl) ?_)
  intro b2 hb2
  refine Seq.op at1 rfl (Op.new rfl (O.box (v := .agg _) rfl (cs := (Stamp_enc s0)) rfl) ?_)
  intro b3 hb3
  refine Seq.rd0 at2 rfl rfl (O.assign (v := .bool _) rfl) ?_
  refine Seq.nil ?_
  refine hK1 ?_
  refine Cd.seq (fun K4 hK4 => ?_)
  refine Cd.seq (fun K5 hK5 => ?_)
  refine Cd.region [0, 1] rfl ?_
  refine Seq.op at0 rfl (Op.callF rfl hb_13 C_awake rfl ?_)
  rintro _ _ ⟨rfl, rfl⟩
  refine Seq.rd0 at1 rfl rfl (O.not rfl) ?_
  refine Seq.nil ?_
  refine hK5 ?_
  refine Cd.condF rfl ?_
  refine Cd.skip ?_
  refine hK4 ?_
  refine Cd.seq (fun K6 hK6 => ?_)
  refine Cd.seq (fun K7 hK7 => ?_)
  refine Cd.region [0, 1, 2, 3, 4, 5, 6, 7] rfl ?_
  refine Seq.rd0 at0 rfl rfl (O.move (v := .slice _ _ _) rfl) ?_
  refine Seq.rd0 at1 rfl rfl (O.lenS ds_22 rfl) ?_
  refine Seq.rd0 at2 rfl rfl (O.gtr rfl rfl) ?_
  refine Seq.rd0 at3 rfl rfl (O.move (v := .bool _) rfl) ?_
  by_cases t8 : (15 : Int) < (nx : Int)
  · rw [decide_eq_true t8]
    refine Seq.pass at4 rfl rfl ?_
    refine Seq.pass at5 rfl rfl ?_
    refine Seq.pass at6 rfl rfl ?_
    refine Seq.rd0 at7 rfl rfl (O.pickT (v := .bool _) rfl rfl) ?_
    refine Seq.nil ?_
    refine hK7 ?_
    refine Cd.condT rfl ?_
    refine Cd.seq (fun K9 hK9 => ?_)
    refine Cd.region [0] rfl ?_
    refine Seq.rd0 at0 rfl rfl (O.assign (v := .bool _) rfl) ?_
    refine Seq.nil ?_
    refine hK9 ?_
    refine Cd.ret ?_
    exact hR _ L (Res.one (v := .bool _) rfl rfl) ⟨rfl, rfl⟩ (.cons _ (.cons _ (.refl _)))
  · rw [decide_eq_false t8]
    refine Seq.rd0 at4 rfl rfl (O.move (v := .slice _ _ _) rfl) ?_
    refine Seq.rd0 at5 rfl rfl (O.lenS ds_22 rfl) ?_
    refine Seq.rd0 at6 rfl rfl (O.gtr rfl rfl) ?_
    refine Seq.rd0 at7 rfl rfl (O.pickF (v := .bool _) rfl rfl) ?_
    refine Seq.nil ?_
    refine hK7 ?_
    refine Cd.if ((20 : Int) < (ny : Int)) rfl (fun t10 => ?_) (fun t10 => ?_)
    · skip
      refine Cd.seq (fun K11 hK11 => ?_)
      refine Cd.region [0] rfl ?_
      refine Seq.rd0 at0 rfl rfl (O.assign (v := .bool _) rfl) ?_
      refine Seq.nil ?_
      refine hK11 ?_
      refine Cd.ret ?_
      exact hR _ L (Res.one (v := .bool _) rfl rfl) ⟨rfl, rfl⟩ (.cons _ (.cons _ (.refl _)))
    · skip
      refine Cd.skip ?_
      refine hK6 ?_
      refine Cd.seq (fun K12 hK12 => ?_)
      refine Cd.region [0, 1] rfl ?_
      refine Seq.op at0 rfl (Op.callF rfl hb_15 C_part_New2 rfl ?_)
      rintro _ _ ⟨pb, Lp0, rfl, hp0, rfl⟩
      refine Seq.rd0 at1 rfl rfl (O.assign (v := .pointer _) rfl) ?_
      refine Seq.nil ?_
      refine hK12 ?_
      refine Cd.seq (fun K13 hK13 => ?_)
      refine Cd.seq (fun K14 hK14 => ?_)
      refine Cd.region [0] rfl ?_
      refine Seq.rd0 at0 rfl rfl (O.assign (v := .int .i64 _) rfl) ?_
      refine Seq.nil ?_
      refine hK14 ?_
      refine Cd.block ?_
      refine Cd.loop (fun m15 e16 L17 => ∃ i : Nat, ∃ l1 : List (Key × CV), ∃ el1 : List (I64 × EV), ∃ hl1 : List (Key × I64), ∃ ol1 : List (I64 × Int), ∃ Lp : List Pt, m15 = xs.length - i ∧ e16 0 = .slice av nx cx ∧ e16 3 = .slice aw ny cy ∧ e16 5 = .pointer (some ⟨b2, 0, none⟩) ∧ e16 6 = .pointer (some ⟨b3, 0, none⟩) ∧ e16 9 = .pointer (some ⟨pb, 0, none⟩) ∧ e16 10 = .int .i64 (i : Int) ∧ L17 = (Lp ++ ((b3, .cells (Stamp_enc s0) 24 (0, 0)) :: (b2, .cells (Key_enc kk) 45 (0, 0)) :: L)) ∧ i ≤ xs.length ∧ PtOwn pb l1 el1 hl1 ol1 Lp ∧ Inv l1 el1 hl1 ol1) _ ⟨0, [], [], [], [], Lp0, rfl, rfl, rfl, rfl, rfl, rfl, rfl, rfl, Nat.zero_le _, hp0, Inv.nil⟩ ?_
      rintro _ e16 _ ⟨i, l1, el1, hl1, ol1, Lp, rfl, s18, s19, s20, s21, s22, s23, rfl, hi, hp, hI⟩ K24 hK24
      refine Cd.seq (fun K25 hK25 => ?_)
      refine Cd.seq (fun K26 hK26 => ?_)
      refine Cd.region [0, 1, 2, 3] rfl ?_
      refine Seq.rd0 at0 rfl rfl (O.move (v := .int .i64 _) (by exact s23)) ?_
      refine Seq.rd0 at1 rfl rfl (O.move (v := .slice _ _ _) (by exact s18)) ?_
      refine Seq.rd0 at2 rfl rfl (O.lenS ds_22 rfl) ?_
      refine Seq.rd0 at3 rfl rfl (O.lss rfl rfl) ?_
      refine Seq.nil ?_
      refine hK26 ?_
      refine Cd.if ((i : Int) < (nx : Int)) rfl (fun t27 => ?_) (fun t27 => ?_)
      · skip
        refine Cd.skip ?_
        refine hK25 ?_
        refine Cd.seq (fun K28 hK28 => ?_)
        refine Cd.block ?_
        refine Cd.seq (fun K29 hK29 => ?_)
        refine Cd.seq (fun K30 hK30 => ?_)
        refine Cd.region [0, 1, 2, 3, 4, 5, 6] rfl ?_
        refine Seq.rd0 at0 rfl rfl (O.move (v := .slice _ _ _) (by exact s18)) ?_
        refine Seq.rd0 at1 rfl rfl (O.move (v := .int .i64 _) (by exact s23)) ?_
        have hlt31 : i < xs.length := by omega
        obtain ⟨pre31, sp31, el31, fz31, hav31, hrd31⟩ := hX.at_ hlt31
        obtain ⟨hwf, wsi, hWi⟩ := hQ _ (List.getElem_mem hlt31)
        refine Seq.rd0 at2 rfl rfl (O.indexG sl_22 rfl hav31 rfl (by omega) (by omega)) ?_
        refine Seq.rd0 at3 rfl rfl (O.field fo_38_1 rfl) ?_
        refine Seq.rd0 at4 rfl rfl (O.field fo_27_3 rfl) ?_
        refine Seq.rd1 at5 rfl rfl (O.load kd_25 rfl ((rowGetP Act_size (getN hlt31) (by decide)).trans (Act_e_ws _))) hrd31.cons.cons.app ?_
        refine Seq.op at6 rfl (Op.callF rfl hb_14 (C_long (hWi.cons.cons.app)) rfl ?_)
        rintro _ _ ⟨rfl, rfl⟩
        refine Seq.nil ?_
        refine hK30 ?_
        refine Cd.cond ((longP wsi)) rfl (fun t32 => ?_) (fun t32 => ?_)
        · skip
          refine Cd.seq (fun K33 hK33 => ?_)
          refine Cd.region [0] rfl ?_
          refine Seq.rd0 at0 rfl rfl (O.assign (v := .bool _) rfl) ?_
          refine Seq.nil ?_
          refine hK33 ?_
          refine Cd.ret ?_
          exact hR _ L (Res.one (v := .bool _) rfl rfl) ⟨rfl, rfl⟩ (sub_app (G := Lp) (.cons _ (.cons _ (.refl _))))
        · skip
          refine Cd.skip ?_
          refine hK29 ?_
          refine Cd.seq (fun K34 hK34 => ?_)
          refine Cd.region [0, 1, 2, 3, 4, 5] rfl ?_
          refine Seq.rd0 at0 rfl rfl (O.move (v := .slice _ _ _) (by exact s18)) ?_
          refine Seq.rd0 at1 rfl rfl (O.move (v := .int .i64 _) (by exact s23)) ?_
          have hlt35 : i < xs.length := by omega
          obtain ⟨pre35, sp35, el35, fz35, hav35, hrd35⟩ := hX.at_ hlt35
          obtain ⟨hwf, wsi, hWi⟩ := hQ _ (List.getElem_mem hlt35)
          refine Seq.rd0 at2 rfl rfl (O.indexG sl_22 rfl hav35 rfl (by omega) (by omega)) ?_
          refine Seq.rd0 at3 rfl rfl (O.field fo_38_0 rfl) ?_
          refine Seq.rd1 at4 rfl rfl (O.load kd_3 rfl ((rowGetP Act_size (getN hlt35) (by decide)).trans (Act_op _))) hrd35.cons.cons.app ?_
          refine Seq.rd0 at5 rfl rfl (O.eqI rfl rfl) ?_
          refine Seq.nil ?_
          refine hK34 ?_
          refine Cd.if (xs[i].op = 0) rfl (fun t36 => ?_) (fun t36 => ?_)
          · skip
            refine Cd.region [0, 1, 2, 3, 4, 5, 6] rfl ?_
            refine Seq.rd0 at0 rfl rfl (O.move (v := .pointer _) (by exact s22)) ?_
            refine Seq.rd0 at1 rfl rfl (O.move (v := .slice _ _ _) (by exact s18)) ?_
            refine Seq.rd0 at2 rfl rfl (O.move (v := .int .i64 _) (by exact s23)) ?_
            have hlt37 : i < xs.length := by omega
            obtain ⟨pre37, sp37, el37, fz37, hav37, hrd37⟩ := hX.at_ hlt37
            obtain ⟨hwf, wsi, hWi⟩ := hQ _ (List.getElem_mem hlt37)
            refine Seq.rd0 at3 rfl rfl (O.indexG sl_22 rfl hav37 rfl (by omega) (by omega)) ?_
            refine Seq.rd0 at4 rfl rfl (O.field fo_38_1 rfl) ?_
            refine Seq.rd1 at5 rfl rfl (O.loadA kd_27 rfl (rowRoomFP Act_size (getN hlt37) (by decide)) (rowSubP Act_size (getN hlt37) (by decide) (Act_e _))) hrd37.cons.cons.app ?_
            refine Seq.op at6 rfl (Op.callF rfl hb_16 (Fn.perm (C_Prepare (L := ([]) ++ ((b3, .cells (Stamp_enc s0) 24 (0, 0)) :: (b2, .cells (Key_enc kk) 45 (0, 0)) :: L)) hp (en := xs[i].e) (ws := wsi) (hWi.cons.cons) (ti := (⟨xs[i].e.id, hwf⟩ : I64)) rfl hI.over) (bring (pre := ([])) (Ls := Lp) (R := ((b3, .cells (Stamp_enc s0) 24 (0, 0)) :: (b2, .cells (Key_enc kk) 45 (0, 0)) :: L)))) rfl ?_)
            rintro _ _ ⟨rfl, Lp2, rfl, ha, hb⟩
            obtain ⟨l2, el2, hl2, ol2, hp2, hI2, hkeep⟩ := still_prep hI ha hb
            refine Ent.perm ?_ (bring (Ls := Lp2) (pre := ([])) (R := ((b3, .cells (Stamp_enc s0) 24 (0, 0)) :: (b2, .cells (Key_enc kk) 45 (0, 0)) :: L))).symm
            refine Seq.nil ?_
            refine hK28 ?_
            refine Cd.region [0, 1, 2] rfl ?_
            refine Seq.rd0 at0 rfl rfl (O.move (v := .int .i64 _) (by exact s23)) ?_
            refine Seq.rd0 at1 rfl rfl (O.add rfl rfl (by omega) (by omega)) ?_
            refine Seq.rd0 at2 rfl rfl (O.assign (v := .int .i64 _) rfl) ?_
            refine Seq.nil ?_
            exact hK24 _ (by omega) ⟨i + 1, l2, el2, hl2, ol2, Lp2, rfl, (by exact s18), (by exact s19), (by exact s20), (by exact s21), (by exact s22), rfl, rfl, by omega, hp2, hI2⟩
          · skip
            refine Cd.draw 13 rfl po ?_
            refine Any.rd0 0 at0 rfl rfl (O.move (v := .pointer _) (by exact s22)) (by kernel_rfl) (by kernel_rfl) (by kernel_rfl) ?_
            refine Any.rd0 1 at1 rfl rfl (O.move (v := .slice _ _ _) (by exact s18)) (by kernel_rfl) (by kernel_rfl) (by kernel_rfl) ?_
            refine Any.rd0 2 at2 rfl rfl (O.move (v := .int .i64 _) (by exact s23)) (by kernel_rfl) (by kernel_rfl) (by kernel_rfl) ?_
            have hlt38 : i < xs.length := by omega
            obtain ⟨pre38, sp38, el38, fz38, hav38, hrd38⟩ := hX.at_ hlt38
            obtain ⟨hwf, wsi, hWi⟩ := hQ _ (List.getElem_mem hlt38)
            refine Any.rd0 3 at3 rfl rfl (O.indexG sl_22 rfl hav38 rfl (by omega) (by omega)) (by kernel_rfl) (by kernel_rfl) (by kernel_rfl) ?_
            refine Any.rd0 4 at4 rfl rfl (O.field fo_38_1 rfl) (by kernel_rfl) (by kernel_rfl) (by kernel_rfl) ?_
            refine Any.rd0 5 at5 rfl rfl (O.field fo_27_0 rfl) (by kernel_rfl) (by kernel_rfl) (by kernel_rfl) ?_
            refine Any.rd1 6 at6 rfl rfl (O.load kd_2 rfl ((rowGetP Act_size (getN hlt38) (by decide)).trans (Act_e_id _))) hrd38.cons.cons.app (by kernel_rfl) (by kernel_rfl) (by kernel_rfl) ?_
            refine Any.rd0 7 at7 rfl rfl (O.move (v := .slice _ _ _) (by exact s18)) (by kernel_rfl) (by kernel_rfl) (by kernel_rfl) ?_
            refine Any.rd0 8 at8 rfl rfl (O.move (v := .int .i64 _) (by exact s23)) (by kernel_rfl) (by kernel_rfl) (by kernel_rfl) ?_
            have hlt39 : i < xs.length := by omega
            obtain ⟨pre39, sp39, el39, fz39, hav39, hrd39⟩ := hX.at_ hlt39
            obtain ⟨hwf, wsi, hWi⟩ := hQ _ (List.getElem_mem hlt39)
            refine Any.rd0 9 at9 rfl rfl (O.indexG sl_22 rfl hav39 rfl (by omega) (by omega)) (by kernel_rfl) (by kernel_rfl) (by kernel_rfl) ?_
            refine Any.rd0 10 at10 rfl rfl (O.field fo_38_2 rfl) (by kernel_rfl) (by kernel_rfl) (by kernel_rfl) ?_
            refine Any.rd1 11 at11 rfl rfl (O.loadA kd_24 rfl (rowRoomFP Act_size (getN hlt39) (by decide)) (rowSubP Act_size (getN hlt39) (by decide) (Act_at_ _))) hrd39.cons.cons.app (by kernel_rfl) (by kernel_rfl) (by kernel_rfl) ?_
            refine Any.one 12 at12 rfl (by kernel_rfl) ⟨⟨trivial, hrd38.cons.cons.app⟩, hrd39.cons.cons.app⟩ ?_
            refine Op.callF rfl hb_17 (Fn.perm (C_Commit (L := ([]) ++ ((b3, .cells (Stamp_enc s0) 24 (0, 0)) :: (b2, .cells (Key_enc kk) 45 (0, 0)) :: L)) hp (ti := (⟨xs[i].e.id, hwf⟩ : I64)) (s := xs[i].at_)) (bring (pre := ([])) (Ls := Lp) (R := ((b3, .cells (Stamp_enc s0) 24 (0, 0)) :: (b2, .cells (Key_enc kk) 45 (0, 0)) :: L)))) rfl ?_
            rintro _ _ ⟨rfl, l9, Lp2, rfl, hb, ha⟩
            obtain ⟨l2, el2, hl2, ol2, hp2, hI2, hkeep⟩ := still_commit hI hb ha
            refine Ent.perm ?_ (bring (Ls := Lp2) (pre := ([])) (R := ((b3, .cells (Stamp_enc s0) 24 (0, 0)) :: (b2, .cells (Key_enc kk) 45 (0, 0)) :: L))).symm
            refine Any.toK ?_
            refine Any.done (by kernel_rfl) ⟨⟨trivial, hrd38.cons.cons.app⟩, hrd39.cons.cons.app⟩ ?_
            refine hK28 ?_
            refine Cd.region [0, 1, 2] rfl ?_
            refine Seq.rd0 at0 rfl rfl (O.move (v := .int .i64 _) (by exact s23)) ?_
            refine Seq.rd0 at1 rfl rfl (O.add rfl rfl (by omega) (by omega)) ?_
            refine Seq.rd0 at2 rfl rfl (O.assign (v := .int .i64 _) rfl) ?_
            refine Seq.nil ?_
            exact hK24 _ (by omega) ⟨i + 1, l2, el2, hl2, ol2, Lp2, rfl, (by exact s18), (by exact s19), (by exact s20), (by exact s21), (by exact s22), rfl, rfl, by omega, hp2, hI2⟩
      · skip
        refine Cd.exit ?_
        refine hK13 ?_
        refine Cd.seq (fun K40 hK40 => ?_)
        refine Cd.region [0, 1, 2, 3, 4, 5, 6, 7, 8, 9, 10] rfl ?_
        refine Seq.rd0 at0 rfl rfl (O.move (v := .pointer _) (by exact s22)) ?_
        refine Seq.rd1 at1 rfl rfl (O.loadA kd_45 (by exact s20) (Nat.le_of_ble_eq_true rfl) (Key_all _)) Rd.head.cons.app ?_
        refine Seq.rd1 at2 rfl rfl (O.loadA kd_24 (by exact s21) (Nat.le_of_ble_eq_true rfl) (Stamp_all _)) Rd.head.app ?_
        refine Seq.op at3 rfl (Op.callF rfl hb_20 (C_Read (k := kk) (s := s0) (now := 1152921504606846976) ((PtOwn.at_ (R := (b3, .cells (Stamp_enc s0) 24 (0, 0)) :: (b2, .cells (Key_enc kk) 45 (0, 0)) :: L) hp))) rfl ?_)
        rintro _ _ ⟨rfl, rfl⟩
        refine Seq.rd0 at4 rfl rfl (O.move (v := .tuple _) rfl) ?_
        refine Seq.rd0 at5 rfl rfl (O.ext rfl r3_0) ?_
        refine Seq.rd0 at6 rfl rfl (O.ext rfl r3_1) ?_
        refine Seq.rd0 at7 rfl rfl (O.ext rfl r3_2) ?_
        refine Seq.rd0 at8 rfl rfl (O.assign (v := .string _) rfl) ?_
        refine Seq.rd0 at9 rfl rfl (O.assign (v := .bool _) rfl) ?_
        refine Seq.rd0 at10 rfl rfl (O.assign (v := .int .i64 _) rfl) ?_
        refine Seq.nil ?_
        refine hK40 ?_
        refine Cd.seq (fun K41 hK41 => ?_)
        refine Cd.seq (fun K42 hK42 => ?_)
        refine Cd.region [0, 1] rfl ?_
        refine Seq.rd0 at0 rfl rfl (O.move (v := .int .i64 _) rfl) ?_
        refine Seq.rd0 at1 rfl rfl (O.neI rfl rfl) ?_
        refine Seq.nil ?_
        refine hK42 ?_
        refine Cd.ifn ((readP l1 el1 hl1 kk s0 1152921504606846976).2.2 = 0) rfl (fun t43 => ?_) (fun t43 => ?_)
        · skip
          refine Cd.seq (fun K44 hK44 => ?_)
          refine Cd.region [0, 1, 2, 3, 4, 5, 6] rfl ?_
          refine Seq.rd0 at0 rfl rfl (O.move (v := .string _) rfl) ?_
          refine Seq.rd0 at1 rfl rfl (O.eqS rfl rfl) ?_
          refine Seq.rd0 at2 rfl rfl (O.move (v := .bool _) rfl) ?_
          have t45 : (readP l1 el1 hl1 kk s0 1152921504606846976).1 = ⟨#[]⟩ := (read_bad (by assumption)).1
          rw [decide_eq_true t45]
          refine Seq.rd0 at3 rfl rfl (O.move (v := .bool _) rfl) ?_
          refine Seq.rd0 at4 rfl rfl (O.not rfl) ?_
          refine Seq.rd0 at5 rfl rfl (O.pickT (v := .bool _) rfl rfl) ?_
          refine Seq.rd0 at6 rfl rfl (O.assign (v := .bool _) rfl) ?_
          refine Seq.nil ?_
          refine hK44 ?_
          refine Cd.ret ?_
          exact hR _ L (Res.one (v := .bool _) rfl rfl) ⟨by rw [(read_bad (by assumption)).2]; rfl, rfl⟩ (sub_app (G := Lp) (.cons _ (.cons _ (.refl _))))
        · skip
          have hrz : (readP l1 el1 hl1 kk s0 1152921504606846976).2.2 = 0 := t43
          refine Cd.skip ?_
          refine hK41 ?_
          refine Cd.seq (fun K46 hK46 => ?_)
          refine Cd.seq (fun K47 hK47 => ?_)
          refine Cd.region [0] rfl ?_
          refine Seq.rd0 at0 rfl rfl (O.assign (v := .int .i64 _) rfl) ?_
          refine Seq.nil ?_
          refine hK47 ?_
          refine Cd.block ?_
          have hst0 := Stl.of hI (read_parts hrz).2.2.1
          have hI0 := hI
          have hp0 := hp
          refine Cd.loop (fun m48 e49 L50 => ∃ i : Nat, ∃ m1 : List (Key × CV), ∃ f1 : List (I64 × EV), ∃ g1 : List (Key × I64), ∃ o1 : List (I64 × Int), ∃ Lq : List Pt, m48 = ys.length - i ∧ e49 3 = .slice aw ny cy ∧ e49 5 = .pointer (some ⟨b2, 0, none⟩) ∧ e49 6 = .pointer (some ⟨b3, 0, none⟩) ∧ e49 9 = .pointer (some ⟨pb, 0, none⟩) ∧ e49 11 = .string ((readP l1 el1 hl1 kk s0 1152921504606846976).1) ∧ e49 12 = .bool ((readP l1 el1 hl1 kk s0 1152921504606846976).2.1) ∧ e49 14 = .int .i64 (i : Int) ∧ L50 = (Lq ++ ((b3, .cells (Stamp_enc s0) 24 (0, 0)) :: (b2, .cells (Key_enc kk) 45 (0, 0)) :: L)) ∧ i ≤ ys.length ∧ PtOwn pb m1 f1 g1 o1 Lq ∧ Inv m1 f1 g1 o1 ∧ Stl f1 kk s0 ∧ getV m1 kk s0 = getV l1 kk s0) _ ⟨0, l1, el1, hl1, ol1, Lp, rfl, (by exact s19), (by exact s20), (by exact s21), (by exact s22), rfl, rfl, rfl, rfl, Nat.zero_le _, hp0, hI0, hst0, rfl⟩ ?_
          rintro _ e49 _ ⟨i, m1, f1, g1, o1, Lq, rfl, s51, s52, s53, s54, s55, s56, s57, rfl, hi2, hp, hI, hst, hgv⟩ K58 hK58
          refine Cd.seq (fun K59 hK59 => ?_)
          refine Cd.seq (fun K60 hK60 => ?_)
          refine Cd.region [0, 1, 2, 3] rfl ?_
          refine Seq.rd0 at0 rfl rfl (O.move (v := .int .i64 _) (by exact s57)) ?_
          refine Seq.rd0 at1 rfl rfl (O.move (v := .slice _ _ _) (by exact s51)) ?_
          refine Seq.rd0 at2 rfl rfl (O.lenS ds_22 rfl) ?_
          refine Seq.rd0 at3 rfl rfl (O.lss rfl rfl) ?_
          refine Seq.nil ?_
          refine hK60 ?_
          refine Cd.if ((i : Int) < (ny : Int)) rfl (fun t61 => ?_) (fun t61 => ?_)
          · skip
            refine Cd.skip ?_
            refine hK59 ?_
            refine Cd.seq (fun K62 hK62 => ?_)
            refine Cd.block ?_
            refine Cd.seq (fun K63 hK63 => ?_)
            refine Cd.region [0, 1, 2, 3, 4, 5] rfl ?_
            refine Seq.rd0 at0 rfl rfl (O.move (v := .slice _ _ _) (by exact s51)) ?_
            refine Seq.rd0 at1 rfl rfl (O.move (v := .int .i64 _) (by exact s57)) ?_
            have hlt64 : i < ys.length := by omega
            obtain ⟨pre64, sp64, el64, fz64, hav64, hrd64⟩ := hY.at_ hlt64
            obtain ⟨hwf, wsi, hWi⟩ := hQ2 _ (List.getElem_mem hlt64)
            refine Seq.rd0 at2 rfl rfl (O.indexG sl_22 rfl hav64 rfl (by omega) (by omega)) ?_
            refine Seq.rd1 at3 rfl rfl (O.loadA kd_38 rfl (rowRoomP Act_size (getN hlt64)) (rowAtP Act_size (getN hlt64))) hrd64.cons.cons.app ?_
            refine Seq.op at4 rfl (Op.new rfl (O.alloc zo_38 (cs := (Act_enc Act.zero)) rfl) ?_)
            intro b65 hb65
            refine Seq.op at5 rfl (Op.set0 rfl (O.store kd_38 rfl (v := .agg _) rfl (Act_size _) (Act_room (Act_size _)) (Act_one _) (Act_put _ (Act_size _))) ?_)
            refine Seq.nil ?_
            refine hK63 ?_
            refine Cd.seq (fun K66 hK66 => ?_)
            refine Cd.seq (fun K67 hK67 => ?_)
            refine Cd.region [0, 1, 2, 3] rfl ?_
            refine Seq.rd0 at0 rfl rfl (O.field fo_38_1 rfl) ?_
            refine Seq.rd0 at1 rfl rfl (O.field fo_27_3 rfl) ?_
            refine Seq.rd1 at2 rfl rfl (O.load kd_25 rfl (Act_e_ws _)) Rd.head ?_
            refine Seq.op at3 rfl (Op.callF rfl hb_14 (C_long (hWi.cons.cons.app.cons)) rfl ?_)
            rintro _ _ ⟨rfl, rfl⟩
            refine Seq.nil ?_
            refine hK67 ?_
            refine Cd.cond ((longP wsi)) rfl (fun t68 => ?_) (fun t68 => ?_)
            · skip
              refine Cd.seq (fun K69 hK69 => ?_)
              refine Cd.region [0] rfl ?_
              refine Seq.rd0 at0 rfl rfl (O.assign (v := .bool _) rfl) ?_
              refine Seq.nil ?_
              refine hK69 ?_
              refine Cd.ret ?_
              exact hR _ L (Res.one (v := .bool _) rfl rfl) ⟨rfl, rfl⟩ (.cons _ (sub_app (G := Lq) (.cons _ (.cons _ (.refl _)))))
            · skip
              refine Cd.skip ?_
              refine hK66 ?_
              refine Cd.seq (fun K70 hK70 => ?_)
              refine Cd.block ?_
              refine Cd.seq (fun K71 hK71 => ?_)
              refine Cd.region [0, 1, 2, 3, 4, 5, 6, 7, 8, 9, 10, 11] rfl ?_
              refine Seq.rd0 at0 rfl rfl (O.field fo_38_0 rfl) ?_
              refine Seq.rd1 at1 rfl rfl (O.load kd_3 rfl (Act_op _)) Rd.head ?_
              refine Seq.rd0 at2 rfl rfl (O.eqI rfl rfl) ?_
              refine Seq.rd0 at3 rfl rfl (O.move (v := .bool _) rfl) ?_
              by_cases t72 : ys[i].op = 0
              · rw [decide_eq_true t72]
                refine Seq.rd0 at4 rfl rfl (O.field fo_38_1 rfl) ?_
                refine Seq.rd0 at5 rfl rfl (O.field fo_27_2 rfl) ?_
                refine Seq.rd1 at6 rfl rfl (O.loadA kd_24 rfl (Nat.le_of_ble_eq_true rfl) (Act_e_stamp _)) Rd.head ?_
                refine Seq.rd1 at7 rfl rfl (O.loadA kd_24 (by exact s53) (Nat.le_of_ble_eq_true rfl) (Stamp_all _)) Rd.head.app.cons ?_
                refine Seq.op at8 rfl (Op.callF rfl hb_21 C_ref6_Cmp rfl ?_)
                rintro _ _ ⟨rfl, rfl⟩
                refine Seq.rd0 at9 rfl rfl (O.gtr rfl rfl) ?_
                refine Seq.rd0 at10 rfl rfl (O.pickT (v := .bool _) rfl rfl) ?_
                refine Seq.rd0 at11 rfl rfl (O.assign (v := .bool _) rfl) ?_
                refine Seq.nil ?_
                refine hK71 ?_
                refine Cd.if ((0 : Int) < (ys[i].e.stamp.cmp s0)) rfl (fun t73 => ?_) (fun t73 => ?_)
                · skip
                  refine Cd.region [0, 1, 2, 3] rfl ?_
                  refine Seq.rd0 at0 rfl rfl (O.move (v := .pointer _) (by exact s54)) ?_
                  refine Seq.rd0 at1 rfl rfl (O.field fo_38_1 rfl) ?_
                  refine Seq.rd1 at2 rfl rfl (O.loadA kd_27 rfl (Nat.le_of_ble_eq_true rfl) (Act_e _)) Rd.head ?_
                  refine Seq.op at3 rfl (Op.callF rfl hb_16 (Fn.perm (C_Prepare (L := ((b65, _) :: []) ++ ((b3, .cells (Stamp_enc s0) 24 (0, 0)) :: (b2, .cells (Key_enc kk) 45 (0, 0)) :: L)) hp (en := ys[i].e) (ws := wsi) (hWi.cons.cons.cons) (ti := (⟨ys[i].e.id, hwf⟩ : I64)) rfl hI.over) (bring (pre := ((b65, _) :: [])) (Ls := Lq) (R := ((b3, .cells (Stamp_enc s0) 24 (0, 0)) :: (b2, .cells (Key_enc kk) 45 (0, 0)) :: L)))) rfl ?_)
                  rintro _ _ ⟨rfl, Lp2, rfl, ha, hb⟩
                  obtain ⟨l2, el2, hl2, ol2, hp2, hI2, hkeep⟩ := still_prep hI ha hb
                  refine Ent.perm ?_ (bring (Ls := Lp2) (pre := ((b65, _) :: [])) (R := ((b3, .cells (Stamp_enc s0) 24 (0, 0)) :: (b2, .cells (Key_enc kk) 45 (0, 0)) :: L))).symm
                  refine Seq.nil ?_
                  refine hK70 ?_
                  refine Cd.seq (fun K74 hK74 => ?_)
                  refine Cd.region [0, 1, 2, 3, 4, 5, 6, 7, 8, 9, 10] rfl ?_
                  refine Seq.rd0 at0 rfl rfl (O.move (v := .pointer _) (by exact s54)) ?_
                  refine Seq.rd1 at1 rfl rfl (O.loadA kd_45 (by exact s52) (Nat.le_of_ble_eq_true rfl) (Key_all _)) Rd.head.cons.app.cons ?_
                  refine Seq.rd1 at2 rfl rfl (O.loadA kd_24 (by exact s53) (Nat.le_of_ble_eq_true rfl) (Stamp_all _)) Rd.head.app.cons ?_
                  obtain ⟨l3, el3, hl3, ol3, Lq3, hL3, hp3, hI3, hst3, hgv3⟩ : ∃ l3 el3 hl3 ol3 Lq3, Lq3 = Lp2 ∧ PtOwn pb l3 el3 hl3 ol3 Lq3 ∧ Inv l3 el3 hl3 ol3 ∧ Stl el3 kk s0 ∧ getV l3 kk s0 = getV l1 kk s0 := by
                    exact ⟨_, _, _, _, _, rfl, hp2, hI2, (hkeep kk s0 (by first | trivial | exact lt_of_cmp (by assumption)) hst).1, (hkeep kk s0 (by first | trivial | exact lt_of_cmp (by assumption)) hst).2.trans hgv⟩
                  rw [← hL3]
                  refine Seq.op at3 rfl (Op.callF rfl hb_20 (C_Read (k := kk) (s := s0) (now := 1152921504606846976) ((PtOwn.at_ (R := (b3, .cells (Stamp_enc s0) 24 (0, 0)) :: (b2, .cells (Key_enc kk) 45 (0, 0)) :: L) hp3).cons)) rfl ?_)
                  rintro _ _ ⟨rfl, rfl⟩
                  rw [still_read hrz hI3 hst3 hgv3]
                  refine Seq.rd0 at4 rfl rfl (O.move (v := .tuple _) rfl) ?_
                  refine Seq.rd0 at5 rfl rfl (O.ext rfl r3_0) ?_
                  refine Seq.rd0 at6 rfl rfl (O.ext rfl r3_1) ?_
                  refine Seq.rd0 at7 rfl rfl (O.ext rfl r3_2) ?_
                  refine Seq.rd0 at8 rfl rfl (O.assign (v := .string _) rfl) ?_
                  refine Seq.rd0 at9 rfl rfl (O.assign (v := .bool _) rfl) ?_
                  refine Seq.rd0 at10 rfl rfl (O.assign (v := .int .i64 _) rfl) ?_
                  refine Seq.nil ?_
                  refine hK74 ?_
                  refine Cd.seq (fun K75 hK75 => ?_)
                  refine Cd.region [0, 1, 2, 3, 4, 5, 6, 7, 8, 9, 10, 11] rfl ?_
                  refine Seq.rd0 at0 rfl rfl (O.move (v := .int .i64 _) rfl) ?_
                  refine Seq.rd0 at1 rfl rfl (O.neI rfl rfl) ?_
                  refine Seq.rd0 at2 rfl rfl (O.move (v := .bool _) rfl) ?_
                  have t76 : (readP l1 el1 hl1 kk s0 1152921504606846976).2.2 = 0 := hrz
                  rw [decide_eq_true t76]
                  refine Seq.rd0 at3 rfl rfl (O.move (v := .string _) rfl) ?_
                  refine Seq.rd0 at4 rfl rfl (O.move (v := .string _) (by exact s55)) ?_
                  refine Seq.rd0 at5 rfl rfl (O.neS rfl rfl) ?_
                  refine Seq.rd0 at6 rfl rfl (O.pickF (v := .bool _) rfl rfl) ?_
                  refine Seq.rd0 at7 rfl rfl (O.move (v := .bool _) rfl) ?_
                  have t77 : (readP l1 el1 hl1 kk s0 1152921504606846976).1 = (readP l1 el1 hl1 kk s0 1152921504606846976).1 := rfl
                  rw [decide_eq_true t77]
                  refine Seq.rd0 at8 rfl rfl (O.move (v := .bool _) rfl) ?_
                  refine Seq.rd0 at9 rfl rfl (O.move (v := .bool _) (by exact s56)) ?_
                  refine Seq.rd0 at10 rfl rfl (O.neB ds_4 rfl rfl) ?_
                  refine Seq.rd0 at11 rfl rfl (O.pickF (v := .bool _) rfl rfl) ?_
                  refine Seq.nil ?_
                  refine hK75 ?_
                  refine Cd.cond (!((readP l1 el1 hl1 kk s0 1152921504606846976).2.1 == (readP l1 el1 hl1 kk s0 1152921504606846976).2.1)) rfl (fun t78 => ?_) (fun t78 => ?_)
                  · skip
                    simp at t78
                  · skip
                    refine Cd.skip ?_
                    refine hK62 ?_
                    refine Cd.region [0, 1, 2] rfl ?_
                    refine Seq.rd0 at0 rfl rfl (O.move (v := .int .i64 _) (by exact s57)) ?_
                    refine Seq.rd0 at1 rfl rfl (O.add rfl rfl (by omega) (by omega)) ?_
                    refine Seq.rd0 at2 rfl rfl (O.assign (v := .int .i64 _) rfl) ?_
                    refine Seq.nil ?_
                    refine Ent.drop ?_
                    exact hK58 _ (by omega) ⟨i + 1, l3, el3, hl3, ol3, Lq3, rfl, (by exact s51), (by exact s52), (by exact s53), (by exact s54), (by exact s55), (by exact s56), rfl, rfl, by omega, hp3, hI3, hst3, hgv3⟩
                · skip
                  refine Cd.seq (fun K79 hK79 => ?_)
                  refine Cd.region [0, 1, 2, 3] rfl ?_
                  refine Seq.rd0 at0 rfl rfl (O.field fo_38_0 rfl) ?_
                  refine Seq.rd1 at1 rfl rfl (O.load kd_3 rfl (Act_op _)) Rd.head ?_
                  refine Seq.rd0 at2 rfl rfl (O.eqI rfl rfl) ?_
                  refine Seq.rd0 at3 rfl rfl (O.assign (v := .bool _) rfl) ?_
                  refine Seq.nil ?_
                  refine hK79 ?_
                  refine Cd.if (ys[i].op = 1) rfl (fun t80 => ?_) (fun t80 => ?_)
                  · skip
                    refine Cd.region [0, 1, 2, 3, 4, 5, 6] rfl ?_
                    refine Seq.rd0 at0 rfl rfl (O.move (v := .pointer _) (by exact s54)) ?_
                    refine Seq.rd0 at1 rfl rfl (O.field fo_38_1 rfl) ?_
                    refine Seq.rd0 at2 rfl rfl (O.field fo_27_0 rfl) ?_
                    refine Seq.rd1 at3 rfl rfl (O.load kd_2 rfl (Act_e_id _)) Rd.head ?_
                    refine Seq.rd0 at4 rfl rfl (O.field fo_38_2 rfl) ?_
                    refine Seq.rd1 at5 rfl rfl (O.loadA kd_24 rfl (Nat.le_of_ble_eq_true rfl) (Act_at_ _)) Rd.head ?_
                    refine Seq.op at6 rfl (Op.callF rfl hb_17 (Fn.perm (C_Commit (L := ((b65, _) :: []) ++ ((b3, .cells (Stamp_enc s0) 24 (0, 0)) :: (b2, .cells (Key_enc kk) 45 (0, 0)) :: L)) hp (ti := (⟨ys[i].e.id, hwf⟩ : I64)) (s := ys[i].at_)) (bring (pre := ((b65, _) :: [])) (Ls := Lq) (R := ((b3, .cells (Stamp_enc s0) 24 (0, 0)) :: (b2, .cells (Key_enc kk) 45 (0, 0)) :: L)))) rfl ?_)
                    rintro _ _ ⟨rfl, l9, Lp2, rfl, hb, ha⟩
                    obtain ⟨l2, el2, hl2, ol2, hp2, hI2, hkeep⟩ := still_commit hI hb ha
                    refine Ent.perm ?_ (bring (Ls := Lp2) (pre := ((b65, _) :: [])) (R := ((b3, .cells (Stamp_enc s0) 24 (0, 0)) :: (b2, .cells (Key_enc kk) 45 (0, 0)) :: L))).symm
                    refine Seq.nil ?_
                    refine hK70 ?_
                    refine Cd.seq (fun K81 hK81 => ?_)
                    refine Cd.region [0, 1, 2, 3, 4, 5, 6, 7, 8, 9, 10] rfl ?_
                    refine Seq.rd0 at0 rfl rfl (O.move (v := .pointer _) (by exact s54)) ?_
                    refine Seq.rd1 at1 rfl rfl (O.loadA kd_45 (by exact s52) (Nat.le_of_ble_eq_true rfl) (Key_all _)) Rd.head.cons.app.cons ?_
                    refine Seq.rd1 at2 rfl rfl (O.loadA kd_24 (by exact s53) (Nat.le_of_ble_eq_true rfl) (Stamp_all _)) Rd.head.app.cons ?_
                    obtain ⟨l3, el3, hl3, ol3, Lq3, hL3, hp3, hI3, hst3, hgv3⟩ : ∃ l3 el3 hl3 ol3 Lq3, Lq3 = Lp2 ∧ PtOwn pb l3 el3 hl3 ol3 Lq3 ∧ Inv l3 el3 hl3 ol3 ∧ Stl el3 kk s0 ∧ getV l3 kk s0 = getV l1 kk s0 := by
                      exact ⟨_, _, _, _, _, rfl, hp2, hI2, (hkeep kk s0 (by first | trivial | exact lt_of_cmp (by assumption)) hst).1, (hkeep kk s0 (by first | trivial | exact lt_of_cmp (by assumption)) hst).2.trans hgv⟩
                    rw [← hL3]
                    refine Seq.op at3 rfl (Op.callF rfl hb_20 (C_Read (k := kk) (s := s0) (now := 1152921504606846976) ((PtOwn.at_ (R := (b3, .cells (Stamp_enc s0) 24 (0, 0)) :: (b2, .cells (Key_enc kk) 45 (0, 0)) :: L) hp3).cons)) rfl ?_)
                    rintro _ _ ⟨rfl, rfl⟩
                    rw [still_read hrz hI3 hst3 hgv3]
                    refine Seq.rd0 at4 rfl rfl (O.move (v := .tuple _) rfl) ?_
                    refine Seq.rd0 at5 rfl rfl (O.ext rfl r3_0) ?_
                    refine Seq.rd0 at6 rfl rfl (O.ext rfl r3_1) ?_
                    refine Seq.rd0 at7 rfl rfl (O.ext rfl r3_2) ?_
                    refine Seq.rd0 at8 rfl rfl (O.assign (v := .string _) rfl) ?_
                    refine Seq.rd0 at9 rfl rfl (O.assign (v := .bool _) rfl) ?_
                    refine Seq.rd0 at10 rfl rfl (O.assign (v := .int .i64 _) rfl) ?_
                    refine Seq.nil ?_
                    refine hK81 ?_
                    refine Cd.seq (fun K82 hK82 => ?_)
                    refine Cd.region [0, 1, 2, 3, 4, 5, 6, 7, 8, 9, 10, 11] rfl ?_
                    refine Seq.rd0 at0 rfl rfl (O.move (v := .int .i64 _) rfl) ?_
                    refine Seq.rd0 at1 rfl rfl (O.neI rfl rfl) ?_
                    refine Seq.rd0 at2 rfl rfl (O.move (v := .bool _) rfl) ?_
                    have t83 : (readP l1 el1 hl1 kk s0 1152921504606846976).2.2 = 0 := hrz
                    rw [decide_eq_true t83]
                    refine Seq.rd0 at3 rfl rfl (O.move (v := .string _) rfl) ?_
                    refine Seq.rd0 at4 rfl rfl (O.move (v := .string _) (by exact s55)) ?_
                    refine Seq.rd0 at5 rfl rfl (O.neS rfl rfl) ?_
                    refine Seq.rd0 at6 rfl rfl (O.pickF (v := .bool _) rfl rfl) ?_
                    refine Seq.rd0 at7 rfl rfl (O.move (v := .bool _) rfl) ?_
                    have t84 : (readP l1 el1 hl1 kk s0 1152921504606846976).1 = (readP l1 el1 hl1 kk s0 1152921504606846976).1 := rfl
                    rw [decide_eq_true t84]
                    refine Seq.rd0 at8 rfl rfl (O.move (v := .bool _) rfl) ?_
                    refine Seq.rd0 at9 rfl rfl (O.move (v := .bool _) (by exact s56)) ?_
                    refine Seq.rd0 at10 rfl rfl (O.neB ds_4 rfl rfl) ?_
                    refine Seq.rd0 at11 rfl rfl (O.pickF (v := .bool _) rfl rfl) ?_
                    refine Seq.nil ?_
                    refine hK82 ?_
                    refine Cd.cond (!((readP l1 el1 hl1 kk s0 1152921504606846976).2.1 == (readP l1 el1 hl1 kk s0 1152921504606846976).2.1)) rfl (fun t85 => ?_) (fun t85 => ?_)
                    · skip
                      simp at t85
                    · skip
                      refine Cd.skip ?_
                      refine hK62 ?_
                      refine Cd.region [0, 1, 2] rfl ?_
                      refine Seq.rd0 at0 rfl rfl (O.move (v := .int .i64 _) (by exact s57)) ?_
                      refine Seq.rd0 at1 rfl rfl (O.add rfl rfl (by omega) (by omega)) ?_
                      refine Seq.rd0 at2 rfl rfl (O.assign (v := .int .i64 _) rfl) ?_
                      refine Seq.nil ?_
                      refine Ent.drop ?_
                      exact hK58 _ (by omega) ⟨i + 1, l3, el3, hl3, ol3, Lq3, rfl, (by exact s51), (by exact s52), (by exact s53), (by exact s54), (by exact s55), (by exact s56), rfl, rfl, by omega, hp3, hI3, hst3, hgv3⟩
                  · skip
                    refine Cd.seq (fun K86 hK86 => ?_)
                    refine Cd.region [0, 1, 2, 3] rfl ?_
                    refine Seq.rd0 at0 rfl rfl (O.field fo_38_0 rfl) ?_
                    refine Seq.rd1 at1 rfl rfl (O.load kd_3 rfl (Act_op _)) Rd.head ?_
                    refine Seq.rd0 at2 rfl rfl (O.eqI rfl rfl) ?_
                    refine Seq.rd0 at3 rfl rfl (O.assign (v := .bool _) rfl) ?_
                    refine Seq.nil ?_
                    refine hK86 ?_
                    refine Cd.if (ys[i].op = 2) rfl (fun t87 => ?_) (fun t87 => ?_)
                    · skip
                      refine Cd.region [0, 1, 2, 3, 4] rfl ?_
                      refine Seq.rd0 at0 rfl rfl (O.move (v := .pointer _) (by exact s54)) ?_
                      refine Seq.rd0 at1 rfl rfl (O.field fo_38_1 rfl) ?_
                      refine Seq.rd0 at2 rfl rfl (O.field fo_27_0 rfl) ?_
                      refine Seq.rd1 at3 rfl rfl (O.load kd_2 rfl (Act_e_id _)) Rd.head ?_
                      refine Seq.op at4 rfl (Op.callF rfl hb_18 (Fn.perm (C_Abort (L := ((b65, _) :: []) ++ ((b3, .cells (Stamp_enc s0) 24 (0, 0)) :: (b2, .cells (Key_enc kk) 45 (0, 0)) :: L)) hp (ti := (⟨ys[i].e.id, hwf⟩ : I64))) (bring (pre := ((b65, _) :: [])) (Ls := Lq) (R := ((b3, .cells (Stamp_enc s0) 24 (0, 0)) :: (b2, .cells (Key_enc kk) 45 (0, 0)) :: L)))) rfl ?_)
                      rintro _ _ ⟨rfl, Lp2, rfl, ha, hb⟩
                      obtain ⟨l2, el2, hl2, ol2, hp2, hI2, hkeep⟩ := still_abort hI ha hb
                      refine Ent.perm ?_ (bring (Ls := Lp2) (pre := ((b65, _) :: [])) (R := ((b3, .cells (Stamp_enc s0) 24 (0, 0)) :: (b2, .cells (Key_enc kk) 45 (0, 0)) :: L))).symm
                      refine Seq.nil ?_
                      refine hK70 ?_
                      refine Cd.seq (fun K88 hK88 => ?_)
                      refine Cd.region [0, 1, 2, 3, 4, 5, 6, 7, 8, 9, 10] rfl ?_
                      refine Seq.rd0 at0 rfl rfl (O.move (v := .pointer _) (by exact s54)) ?_
                      refine Seq.rd1 at1 rfl rfl (O.loadA kd_45 (by exact s52) (Nat.le_of_ble_eq_true rfl) (Key_all _)) Rd.head.cons.app.cons ?_
                      refine Seq.rd1 at2 rfl rfl (O.loadA kd_24 (by exact s53) (Nat.le_of_ble_eq_true rfl) (Stamp_all _)) Rd.head.app.cons ?_
                      obtain ⟨l3, el3, hl3, ol3, Lq3, hL3, hp3, hI3, hst3, hgv3⟩ : ∃ l3 el3 hl3 ol3 Lq3, Lq3 = Lp2 ∧ PtOwn pb l3 el3 hl3 ol3 Lq3 ∧ Inv l3 el3 hl3 ol3 ∧ Stl el3 kk s0 ∧ getV l3 kk s0 = getV l1 kk s0 := by
                        exact ⟨_, _, _, _, _, rfl, hp2, hI2, (hkeep kk s0 (by first | trivial | exact lt_of_cmp (by assumption)) hst).1, (hkeep kk s0 (by first | trivial | exact lt_of_cmp (by assumption)) hst).2.trans hgv⟩
                      rw [← hL3]
                      refine Seq.op at3 rfl (Op.callF rfl hb_20 (C_Read (k := kk) (s := s0) (now := 1152921504606846976) ((PtOwn.at_ (R := (b3, .cells (Stamp_enc s0) 24 (0, 0)) :: (b2, .cells (Key_enc kk) 45 (0, 0)) :: L) hp3).cons)) rfl ?_)
                      rintro _ _ ⟨rfl, rfl⟩
                      rw [still_read hrz hI3 hst3 hgv3]
                      refine Seq.rd0 at4 rfl rfl (O.move (v := .tuple _) rfl) ?_
                      refine Seq.rd0 at5 rfl rfl (O.ext rfl r3_0) ?_
                      refine Seq.rd0 at6 rfl rfl (O.ext rfl r3_1) ?_
                      refine Seq.rd0 at7 rfl rfl (O.ext rfl r3_2) ?_
                      refine Seq.rd0 at8 rfl rfl (O.assign (v := .string _) rfl) ?_
                      refine Seq.rd0 at9 rfl rfl (O.assign (v := .bool _) rfl) ?_
                      refine Seq.rd0 at10 rfl rfl (O.assign (v := .int .i64 _) rfl) ?_
                      refine Seq.nil ?_
                      refine hK88 ?_
                      refine Cd.seq (fun K89 hK89 => ?_)
                      refine Cd.region [0, 1, 2, 3, 4, 5, 6, 7, 8, 9, 10, 11] rfl ?_
                      refine Seq.rd0 at0 rfl rfl (O.move (v := .int .i64 _) rfl) ?_
                      refine Seq.rd0 at1 rfl rfl (O.neI rfl rfl) ?_
                      refine Seq.rd0 at2 rfl rfl (O.move (v := .bool _) rfl) ?_
                      have t90 : (readP l1 el1 hl1 kk s0 1152921504606846976).2.2 = 0 := hrz
                      rw [decide_eq_true t90]
                      refine Seq.rd0 at3 rfl rfl (O.move (v := .string _) rfl) ?_
                      refine Seq.rd0 at4 rfl rfl (O.move (v := .string _) (by exact s55)) ?_
                      refine Seq.rd0 at5 rfl rfl (O.neS rfl rfl) ?_
                      refine Seq.rd0 at6 rfl rfl (O.pickF (v := .bool _) rfl rfl) ?_
                      refine Seq.rd0 at7 rfl rfl (O.move (v := .bool _) rfl) ?_
                      have t91 : (readP l1 el1 hl1 kk s0 1152921504606846976).1 = (readP l1 el1 hl1 kk s0 1152921504606846976).1 := rfl
                      rw [decide_eq_true t91]
                      refine Seq.rd0 at8 rfl rfl (O.move (v := .bool _) rfl) ?_
                      refine Seq.rd0 at9 rfl rfl (O.move (v := .bool _) (by exact s56)) ?_
                      refine Seq.rd0 at10 rfl rfl (O.neB ds_4 rfl rfl) ?_
                      refine Seq.rd0 at11 rfl rfl (O.pickF (v := .bool _) rfl rfl) ?_
                      refine Seq.nil ?_
                      refine hK89 ?_
                      refine Cd.cond (!((readP l1 el1 hl1 kk s0 1152921504606846976).2.1 == (readP l1 el1 hl1 kk s0 1152921504606846976).2.1)) rfl (fun t92 => ?_) (fun t92 => ?_)
                      · skip
                        simp at t92
                      · skip
                        refine Cd.skip ?_
                        refine hK62 ?_
                        refine Cd.region [0, 1, 2] rfl ?_
                        refine Seq.rd0 at0 rfl rfl (O.move (v := .int .i64 _) (by exact s57)) ?_
                        refine Seq.rd0 at1 rfl rfl (O.add rfl rfl (by omega) (by omega)) ?_
                        refine Seq.rd0 at2 rfl rfl (O.assign (v := .int .i64 _) rfl) ?_
                        refine Seq.nil ?_
                        refine Ent.drop ?_
                        exact hK58 _ (by omega) ⟨i + 1, l3, el3, hl3, ol3, Lq3, rfl, (by exact s51), (by exact s52), (by exact s53), (by exact s54), (by exact s55), (by exact s56), rfl, rfl, by omega, hp3, hI3, hst3, hgv3⟩
                    · skip
                      refine Cd.skip ?_
                      refine hK70 ?_
                      refine Cd.seq (fun K93 hK93 => ?_)
                      refine Cd.region [0, 1, 2, 3, 4, 5, 6, 7, 8, 9, 10] rfl ?_
                      refine Seq.rd0 at0 rfl rfl (O.move (v := .pointer _) (by exact s54)) ?_
                      refine Seq.rd1 at1 rfl rfl (O.loadA kd_45 (by exact s52) (Nat.le_of_ble_eq_true rfl) (Key_all _)) Rd.head.cons.app.cons ?_
                      refine Seq.rd1 at2 rfl rfl (O.loadA kd_24 (by exact s53) (Nat.le_of_ble_eq_true rfl) (Stamp_all _)) Rd.head.app.cons ?_
                      obtain ⟨l3, el3, hl3, ol3, Lq3, hL3, hp3, hI3, hst3, hgv3⟩ : ∃ l3 el3 hl3 ol3 Lq3, Lq3 = Lq ∧ PtOwn pb l3 el3 hl3 ol3 Lq3 ∧ Inv l3 el3 hl3 ol3 ∧ Stl el3 kk s0 ∧ getV l3 kk s0 = getV l1 kk s0 := by
                        exact ⟨_, _, _, _, _, rfl, hp, hI, hst, hgv⟩
                      rw [← hL3]
                      refine Seq.op at3 rfl (Op.callF rfl hb_20 (C_Read (k := kk) (s := s0) (now := 1152921504606846976) ((PtOwn.at_ (R := (b3, .cells (Stamp_enc s0) 24 (0, 0)) :: (b2, .cells (Key_enc kk) 45 (0, 0)) :: L) hp3).cons)) rfl ?_)
                      rintro _ _ ⟨rfl, rfl⟩
                      rw [still_read hrz hI3 hst3 hgv3]
                      refine Seq.rd0 at4 rfl rfl (O.move (v := .tuple _) rfl) ?_
                      refine Seq.rd0 at5 rfl rfl (O.ext rfl r3_0) ?_
                      refine Seq.rd0 at6 rfl rfl (O.ext rfl r3_1) ?_
                      refine Seq.rd0 at7 rfl rfl (O.ext rfl r3_2) ?_
                      refine Seq.rd0 at8 rfl rfl (O.assign (v := .string _) rfl) ?_
                      refine Seq.rd0 at9 rfl rfl (O.assign (v := .bool _) rfl) ?_
                      refine Seq.rd0 at10 rfl rfl (O.assign (v := .int .i64 _) rfl) ?_
                      refine Seq.nil ?_
                      refine hK93 ?_
                      refine Cd.seq (fun K94 hK94 => ?_)
                      refine Cd.region [0, 1, 2, 3, 4, 5, 6, 7, 8, 9, 10, 11] rfl ?_
                      refine Seq.rd0 at0 rfl rfl (O.move (v := .int .i64 _) rfl) ?_
                      refine Seq.rd0 at1 rfl rfl (O.neI rfl rfl) ?_
                      refine Seq.rd0 at2 rfl rfl (O.move (v := .bool _) rfl) ?_
                      have t95 : (readP l1 el1 hl1 kk s0 1152921504606846976).2.2 = 0 := hrz
                      rw [decide_eq_true t95]
                      refine Seq.rd0 at3 rfl rfl (O.move (v := .string _) rfl) ?_
                      refine Seq.rd0 at4 rfl rfl (O.move (v := .string _) (by exact s55)) ?_
                      refine Seq.rd0 at5 rfl rfl (O.neS rfl rfl) ?_
                      refine Seq.rd0 at6 rfl rfl (O.pickF (v := .bool _) rfl rfl) ?_
                      refine Seq.rd0 at7 rfl rfl (O.move (v := .bool _) rfl) ?_
                      have t96 : (readP l1 el1 hl1 kk s0 1152921504606846976).1 = (readP l1 el1 hl1 kk s0 1152921504606846976).1 := rfl
                      rw [decide_eq_true t96]
                      refine Seq.rd0 at8 rfl rfl (O.move (v := .bool _) rfl) ?_
                      refine Seq.rd0 at9 rfl rfl (O.move (v := .bool _) (by exact s56)) ?_
                      refine Seq.rd0 at10 rfl rfl (O.neB ds_4 rfl rfl) ?_
                      refine Seq.rd0 at11 rfl rfl (O.pickF (v := .bool _) rfl rfl) ?_
                      refine Seq.nil ?_
                      refine hK94 ?_
                      refine Cd.cond (!((readP l1 el1 hl1 kk s0 1152921504606846976).2.1 == (readP l1 el1 hl1 kk s0 1152921504606846976).2.1)) rfl (fun t97 => ?_) (fun t97 => ?_)
                      · skip
                        simp at t97
                      · skip
                        refine Cd.skip ?_
                        refine hK62 ?_
                        refine Cd.region [0, 1, 2] rfl ?_
                        refine Seq.rd0 at0 rfl rfl (O.move (v := .int .i64 _) (by exact s57)) ?_
                        refine Seq.rd0 at1 rfl rfl (O.add rfl rfl (by omega) (by omega)) ?_
                        refine Seq.rd0 at2 rfl rfl (O.assign (v := .int .i64 _) rfl) ?_
                        refine Seq.nil ?_
                        refine Ent.drop ?_
                        exact hK58 _ (by omega) ⟨i + 1, l3, el3, hl3, ol3, Lq3, rfl, (by exact s51), (by exact s52), (by exact s53), (by exact s54), (by exact s55), (by exact s56), rfl, rfl, by omega, hp3, hI3, hst3, hgv3⟩
              · rw [decide_eq_false t72]
                refine Seq.pass at4 rfl rfl ?_
                refine Seq.pass at5 rfl rfl ?_
                refine Seq.pass at6 rfl rfl ?_
                refine Seq.pass at7 rfl rfl ?_
                refine Seq.pass at8 rfl rfl ?_
                refine Seq.pass at9 rfl rfl ?_
                refine Seq.rd0 at10 rfl rfl (O.pickF (v := .bool _) rfl rfl) ?_
                refine Seq.rd0 at11 rfl rfl (O.assign (v := .bool _) rfl) ?_
                refine Seq.nil ?_
                refine hK71 ?_
                refine Cd.condF rfl ?_
                refine Cd.seq (fun K98 hK98 => ?_)
                refine Cd.region [0, 1, 2, 3] rfl ?_
                refine Seq.rd0 at0 rfl rfl (O.field fo_38_0 rfl) ?_
                refine Seq.rd1 at1 rfl rfl (O.load kd_3 rfl (Act_op _)) Rd.head ?_
                refine Seq.rd0 at2 rfl rfl (O.eqI rfl rfl) ?_
                refine Seq.rd0 at3 rfl rfl (O.assign (v := .bool _) rfl) ?_
                refine Seq.nil ?_
                refine hK98 ?_
                refine Cd.if (ys[i].op = 1) rfl (fun t99 => ?_) (fun t99 => ?_)
                · skip
                  refine Cd.region [0, 1, 2, 3, 4, 5, 6] rfl ?_
                  refine Seq.rd0 at0 rfl rfl (O.move (v := .pointer _) (by exact s54)) ?_
                  refine Seq.rd0 at1 rfl rfl (O.field fo_38_1 rfl) ?_
                  refine Seq.rd0 at2 rfl rfl (O.field fo_27_0 rfl) ?_
                  refine Seq.rd1 at3 rfl rfl (O.load kd_2 rfl (Act_e_id _)) Rd.head ?_
                  refine Seq.rd0 at4 rfl rfl (O.field fo_38_2 rfl) ?_
                  refine Seq.rd1 at5 rfl rfl (O.loadA kd_24 rfl (Nat.le_of_ble_eq_true rfl) (Act_at_ _)) Rd.head ?_
                  refine Seq.op at6 rfl (Op.callF rfl hb_17 (Fn.perm (C_Commit (L := ((b65, _) :: []) ++ ((b3, .cells (Stamp_enc s0) 24 (0, 0)) :: (b2, .cells (Key_enc kk) 45 (0, 0)) :: L)) hp (ti := (⟨ys[i].e.id, hwf⟩ : I64)) (s := ys[i].at_)) (bring (pre := ((b65, _) :: [])) (Ls := Lq) (R := ((b3, .cells (Stamp_enc s0) 24 (0, 0)) :: (b2, .cells (Key_enc kk) 45 (0, 0)) :: L)))) rfl ?_)
                  rintro _ _ ⟨rfl, l9, Lp2, rfl, hb, ha⟩
                  obtain ⟨l2, el2, hl2, ol2, hp2, hI2, hkeep⟩ := still_commit hI hb ha
                  refine Ent.perm ?_ (bring (Ls := Lp2) (pre := ((b65, _) :: [])) (R := ((b3, .cells (Stamp_enc s0) 24 (0, 0)) :: (b2, .cells (Key_enc kk) 45 (0, 0)) :: L))).symm
                  refine Seq.nil ?_
                  refine hK70 ?_
                  refine Cd.seq (fun K100 hK100 => ?_)
                  refine Cd.region [0, 1, 2, 3, 4, 5, 6, 7, 8, 9, 10] rfl ?_
                  refine Seq.rd0 at0 rfl rfl (O.move (v := .pointer _) (by exact s54)) ?_
                  refine Seq.rd1 at1 rfl rfl (O.loadA kd_45 (by exact s52) (Nat.le_of_ble_eq_true rfl) (Key_all _)) Rd.head.cons.app.cons ?_
                  refine Seq.rd1 at2 rfl rfl (O.loadA kd_24 (by exact s53) (Nat.le_of_ble_eq_true rfl) (Stamp_all _)) Rd.head.app.cons ?_
                  obtain ⟨l3, el3, hl3, ol3, Lq3, hL3, hp3, hI3, hst3, hgv3⟩ : ∃ l3 el3 hl3 ol3 Lq3, Lq3 = Lp2 ∧ PtOwn pb l3 el3 hl3 ol3 Lq3 ∧ Inv l3 el3 hl3 ol3 ∧ Stl el3 kk s0 ∧ getV l3 kk s0 = getV l1 kk s0 := by
                    exact ⟨_, _, _, _, _, rfl, hp2, hI2, (hkeep kk s0 (by first | trivial | exact lt_of_cmp (by assumption)) hst).1, (hkeep kk s0 (by first | trivial | exact lt_of_cmp (by assumption)) hst).2.trans hgv⟩
                  rw [← hL3]
                  refine Seq.op at3 rfl (Op.callF rfl hb_20 (C_Read (k := kk) (s := s0) (now := 1152921504606846976) ((PtOwn.at_ (R := (b3, .cells (Stamp_enc s0) 24 (0, 0)) :: (b2, .cells (Key_enc kk) 45 (0, 0)) :: L) hp3).cons)) rfl ?_)
                  rintro _ _ ⟨rfl, rfl⟩
                  rw [still_read hrz hI3 hst3 hgv3]
                  refine Seq.rd0 at4 rfl rfl (O.move (v := .tuple _) rfl) ?_
                  refine Seq.rd0 at5 rfl rfl (O.ext rfl r3_0) ?_
                  refine Seq.rd0 at6 rfl rfl (O.ext rfl r3_1) ?_
                  refine Seq.rd0 at7 rfl rfl (O.ext rfl r3_2) ?_
                  refine Seq.rd0 at8 rfl rfl (O.assign (v := .string _) rfl) ?_
                  refine Seq.rd0 at9 rfl rfl (O.assign (v := .bool _) rfl) ?_
                  refine Seq.rd0 at10 rfl rfl (O.assign (v := .int .i64 _) rfl) ?_
                  refine Seq.nil ?_
                  refine hK100 ?_
                  refine Cd.seq (fun K101 hK101 => ?_)
                  refine Cd.region [0, 1, 2, 3, 4, 5, 6, 7, 8, 9, 10, 11] rfl ?_
                  refine Seq.rd0 at0 rfl rfl (O.move (v := .int .i64 _) rfl) ?_
                  refine Seq.rd0 at1 rfl rfl (O.neI rfl rfl) ?_
                  refine Seq.rd0 at2 rfl rfl (O.move (v := .bool _) rfl) ?_
                  have t102 : (readP l1 el1 hl1 kk s0 1152921504606846976).2.2 = 0 := hrz
                  rw [decide_eq_true t102]
                  refine Seq.rd0 at3 rfl rfl (O.move (v := .string _) rfl) ?_
                  refine Seq.rd0 at4 rfl rfl (O.move (v := .string _) (by exact s55)) ?_
                  refine Seq.rd0 at5 rfl rfl (O.neS rfl rfl) ?_
                  refine Seq.rd0 at6 rfl rfl (O.pickF (v := .bool _) rfl rfl) ?_
                  refine Seq.rd0 at7 rfl rfl (O.move (v := .bool _) rfl) ?_
                  have t103 : (readP l1 el1 hl1 kk s0 1152921504606846976).1 = (readP l1 el1 hl1 kk s0 1152921504606846976).1 := rfl
                  rw [decide_eq_true t103]
                  refine Seq.rd0 at8 rfl rfl (O.move (v := .bool _) rfl) ?_
                  refine Seq.rd0 at9 rfl rfl (O.move (v := .bool _) (by exact s56)) ?_
                  refine Seq.rd0 at10 rfl rfl (O.neB ds_4 rfl rfl) ?_
                  refine Seq.rd0 at11 rfl rfl (O.pickF (v := .bool _) rfl rfl) ?_
                  refine Seq.nil ?_
                  refine hK101 ?_
                  refine Cd.cond (!((readP l1 el1 hl1 kk s0 1152921504606846976).2.1 == (readP l1 el1 hl1 kk s0 1152921504606846976).2.1)) rfl (fun t104 => ?_) (fun t104 => ?_)
                  · skip
                    simp at t104
                  · skip
                    refine Cd.skip ?_
                    refine hK62 ?_
                    refine Cd.region [0, 1, 2] rfl ?_
                    refine Seq.rd0 at0 rfl rfl (O.move (v := .int .i64 _) (by exact s57)) ?_
                    refine Seq.rd0 at1 rfl rfl (O.add rfl rfl (by omega) (by omega)) ?_
                    refine Seq.rd0 at2 rfl rfl (O.assign (v := .int .i64 _) rfl) ?_
                    refine Seq.nil ?_
                    refine Ent.drop ?_
                    exact hK58 _ (by omega) ⟨i + 1, l3, el3, hl3, ol3, Lq3, rfl, (by exact s51), (by exact s52), (by exact s53), (by exact s54), (by exact s55), (by exact s56), rfl, rfl, by omega, hp3, hI3, hst3, hgv3⟩
                · skip
                  refine Cd.seq (fun K105 hK105 => ?_)
                  refine Cd.region [0, 1, 2, 3] rfl ?_
                  refine Seq.rd0 at0 rfl rfl (O.field fo_38_0 rfl) ?_
                  refine Seq.rd1 at1 rfl rfl (O.load kd_3 rfl (Act_op _)) Rd.head ?_
                  refine Seq.rd0 at2 rfl rfl (O.eqI rfl rfl) ?_
                  refine Seq.rd0 at3 rfl rfl (O.assign (v := .bool _) rfl) ?_
                  refine Seq.nil ?_
                  refine hK105 ?_
                  refine Cd.if (ys[i].op = 2) rfl (fun t106 => ?_) (fun t106 => ?_)
                  · skip
                    refine Cd.region [0, 1, 2, 3, 4] rfl ?_
                    refine Seq.rd0 at0 rfl rfl (O.move (v := .pointer _) (by exact s54)) ?_
                    refine Seq.rd0 at1 rfl rfl (O.field fo_38_1 rfl) ?_
                    refine Seq.rd0 at2 rfl rfl (O.field fo_27_0 rfl) ?_
                    refine Seq.rd1 at3 rfl rfl (O.load kd_2 rfl (Act_e_id _)) Rd.head ?_
                    refine Seq.op at4 rfl (Op.callF rfl hb_18 (Fn.perm (C_Abort (L := ((b65, _) :: []) ++ ((b3, .cells (Stamp_enc s0) 24 (0, 0)) :: (b2, .cells (Key_enc kk) 45 (0, 0)) :: L)) hp (ti := (⟨ys[i].e.id, hwf⟩ : I64))) (bring (pre := ((b65, _) :: [])) (Ls := Lq) (R := ((b3, .cells (Stamp_enc s0) 24 (0, 0)) :: (b2, .cells (Key_enc kk) 45 (0, 0)) :: L)))) rfl ?_)
                    rintro _ _ ⟨rfl, Lp2, rfl, ha, hb⟩
                    obtain ⟨l2, el2, hl2, ol2, hp2, hI2, hkeep⟩ := still_abort hI ha hb
                    refine Ent.perm ?_ (bring (Ls := Lp2) (pre := ((b65, _) :: [])) (R := ((b3, .cells (Stamp_enc s0) 24 (0, 0)) :: (b2, .cells (Key_enc kk) 45 (0, 0)) :: L))).symm
                    refine Seq.nil ?_
                    refine hK70 ?_
                    refine Cd.seq (fun K107 hK107 => ?_)
                    refine Cd.region [0, 1, 2, 3, 4, 5, 6, 7, 8, 9, 10] rfl ?_
                    refine Seq.rd0 at0 rfl rfl (O.move (v := .pointer _) (by exact s54)) ?_
                    refine Seq.rd1 at1 rfl rfl (O.loadA kd_45 (by exact s52) (Nat.le_of_ble_eq_true rfl) (Key_all _)) Rd.head.cons.app.cons ?_
                    refine Seq.rd1 at2 rfl rfl (O.loadA kd_24 (by exact s53) (Nat.le_of_ble_eq_true rfl) (Stamp_all _)) Rd.head.app.cons ?_
                    obtain ⟨l3, el3, hl3, ol3, Lq3, hL3, hp3, hI3, hst3, hgv3⟩ : ∃ l3 el3 hl3 ol3 Lq3, Lq3 = Lp2 ∧ PtOwn pb l3 el3 hl3 ol3 Lq3 ∧ Inv l3 el3 hl3 ol3 ∧ Stl el3 kk s0 ∧ getV l3 kk s0 = getV l1 kk s0 := by
                      exact ⟨_, _, _, _, _, rfl, hp2, hI2, (hkeep kk s0 (by first | trivial | exact lt_of_cmp (by assumption)) hst).1, (hkeep kk s0 (by first | trivial | exact lt_of_cmp (by assumption)) hst).2.trans hgv⟩
                    rw [← hL3]
                    refine Seq.op at3 rfl (Op.callF rfl hb_20 (C_Read (k := kk) (s := s0) (now := 1152921504606846976) ((PtOwn.at_ (R := (b3, .cells (Stamp_enc s0) 24 (0, 0)) :: (b2, .cells (Key_enc kk) 45 (0, 0)) :: L) hp3).cons)) rfl ?_)
                    rintro _ _ ⟨rfl, rfl⟩
                    rw [still_read hrz hI3 hst3 hgv3]
                    refine Seq.rd0 at4 rfl rfl (O.move (v := .tuple _) rfl) ?_
                    refine Seq.rd0 at5 rfl rfl (O.ext rfl r3_0) ?_
                    refine Seq.rd0 at6 rfl rfl (O.ext rfl r3_1) ?_
                    refine Seq.rd0 at7 rfl rfl (O.ext rfl r3_2) ?_
                    refine Seq.rd0 at8 rfl rfl (O.assign (v := .string _) rfl) ?_
                    refine Seq.rd0 at9 rfl rfl (O.assign (v := .bool _) rfl) ?_
                    refine Seq.rd0 at10 rfl rfl (O.assign (v := .int .i64 _) rfl) ?_
                    refine Seq.nil ?_
                    refine hK107 ?_
                    refine Cd.seq (fun K108 hK108 => ?_)
                    refine Cd.region [0, 1, 2, 3, 4, 5, 6, 7, 8, 9, 10, 11] rfl ?_
                    refine Seq.rd0 at0 rfl rfl (O.move (v := .int .i64 _) rfl) ?_
                    refine Seq.rd0 at1 rfl rfl (O.neI rfl rfl) ?_
                    refine Seq.rd0 at2 rfl rfl (O.move (v := .bool _) rfl) ?_
                    have t109 : (readP l1 el1 hl1 kk s0 1152921504606846976).2.2 = 0 := hrz
                    rw [decide_eq_true t109]
                    refine Seq.rd0 at3 rfl rfl (O.move (v := .string _) rfl) ?_
                    refine Seq.rd0 at4 rfl rfl (O.move (v := .string _) (by exact s55)) ?_
                    refine Seq.rd0 at5 rfl rfl (O.neS rfl rfl) ?_
                    refine Seq.rd0 at6 rfl rfl (O.pickF (v := .bool _) rfl rfl) ?_
                    refine Seq.rd0 at7 rfl rfl (O.move (v := .bool _) rfl) ?_
                    have t110 : (readP l1 el1 hl1 kk s0 1152921504606846976).1 = (readP l1 el1 hl1 kk s0 1152921504606846976).1 := rfl
                    rw [decide_eq_true t110]
                    refine Seq.rd0 at8 rfl rfl (O.move (v := .bool _) rfl) ?_
                    refine Seq.rd0 at9 rfl rfl (O.move (v := .bool _) (by exact s56)) ?_
                    refine Seq.rd0 at10 rfl rfl (O.neB ds_4 rfl rfl) ?_
                    refine Seq.rd0 at11 rfl rfl (O.pickF (v := .bool _) rfl rfl) ?_
                    refine Seq.nil ?_
                    refine hK108 ?_
                    refine Cd.cond (!((readP l1 el1 hl1 kk s0 1152921504606846976).2.1 == (readP l1 el1 hl1 kk s0 1152921504606846976).2.1)) rfl (fun t111 => ?_) (fun t111 => ?_)
                    · skip
                      simp at t111
                    · skip
                      refine Cd.skip ?_
                      refine hK62 ?_
                      refine Cd.region [0, 1, 2] rfl ?_
                      refine Seq.rd0 at0 rfl rfl (O.move (v := .int .i64 _) (by exact s57)) ?_
                      refine Seq.rd0 at1 rfl rfl (O.add rfl rfl (by omega) (by omega)) ?_
                      refine Seq.rd0 at2 rfl rfl (O.assign (v := .int .i64 _) rfl) ?_
                      refine Seq.nil ?_
                      refine Ent.drop ?_
                      exact hK58 _ (by omega) ⟨i + 1, l3, el3, hl3, ol3, Lq3, rfl, (by exact s51), (by exact s52), (by exact s53), (by exact s54), (by exact s55), (by exact s56), rfl, rfl, by omega, hp3, hI3, hst3, hgv3⟩
                  · skip
                    refine Cd.skip ?_
                    refine hK70 ?_
                    refine Cd.seq (fun K112 hK112 => ?_)
                    refine Cd.region [0, 1, 2, 3, 4, 5, 6, 7, 8, 9, 10] rfl ?_
                    refine Seq.rd0 at0 rfl rfl (O.move (v := .pointer _) (by exact s54)) ?_
                    refine Seq.rd1 at1 rfl rfl (O.loadA kd_45 (by exact s52) (Nat.le_of_ble_eq_true rfl) (Key_all _)) Rd.head.cons.app.cons ?_
                    refine Seq.rd1 at2 rfl rfl (O.loadA kd_24 (by exact s53) (Nat.le_of_ble_eq_true rfl) (Stamp_all _)) Rd.head.app.cons ?_
                    obtain ⟨l3, el3, hl3, ol3, Lq3, hL3, hp3, hI3, hst3, hgv3⟩ : ∃ l3 el3 hl3 ol3 Lq3, Lq3 = Lq ∧ PtOwn pb l3 el3 hl3 ol3 Lq3 ∧ Inv l3 el3 hl3 ol3 ∧ Stl el3 kk s0 ∧ getV l3 kk s0 = getV l1 kk s0 := by
                      exact ⟨_, _, _, _, _, rfl, hp, hI, hst, hgv⟩
                    rw [← hL3]
                    refine Seq.op at3 rfl (Op.callF rfl hb_20 (C_Read (k := kk) (s := s0) (now := 1152921504606846976) ((PtOwn.at_ (R := (b3, .cells (Stamp_enc s0) 24 (0, 0)) :: (b2, .cells (Key_enc kk) 45 (0, 0)) :: L) hp3).cons)) rfl ?_)
                    rintro _ _ ⟨rfl, rfl⟩
                    rw [still_read hrz hI3 hst3 hgv3]
                    refine Seq.rd0 at4 rfl rfl (O.move (v := .tuple _) rfl) ?_
                    refine Seq.rd0 at5 rfl rfl (O.ext rfl r3_0) ?_
                    refine Seq.rd0 at6 rfl rfl (O.ext rfl r3_1) ?_
                    refine Seq.rd0 at7 rfl rfl (O.ext rfl r3_2) ?_
                    refine Seq.rd0 at8 rfl rfl (O.assign (v := .string _) rfl) ?_
                    refine Seq.rd0 at9 rfl rfl (O.assign (v := .bool _) rfl) ?_
                    refine Seq.rd0 at10 rfl rfl (O.assign (v := .int .i64 _) rfl) ?_
                    refine Seq.nil ?_
                    refine hK112 ?_
                    refine Cd.seq (fun K113 hK113 => ?_)
                    refine Cd.region [0, 1, 2, 3, 4, 5, 6, 7, 8, 9, 10, 11] rfl ?_
                    refine Seq.rd0 at0 rfl rfl (O.move (v := .int .i64 _) rfl) ?_
                    refine Seq.rd0 at1 rfl rfl (O.neI rfl rfl) ?_
                    refine Seq.rd0 at2 rfl rfl (O.move (v := .bool _) rfl) ?_
                    have t114 : (readP l1 el1 hl1 kk s0 1152921504606846976).2.2 = 0 := hrz
                    rw [decide_eq_true t114]
                    refine Seq.rd0 at3 rfl rfl (O.move (v := .string _) rfl) ?_
                    refine Seq.rd0 at4 rfl rfl (O.move (v := .string _) (by exact s55)) ?_
                    refine Seq.rd0 at5 rfl rfl (O.neS rfl rfl) ?_
                    refine Seq.rd0 at6 rfl rfl (O.pickF (v := .bool _) rfl rfl) ?_
                    refine Seq.rd0 at7 rfl rfl (O.move (v := .bool _) rfl) ?_
                    have t115 : (readP l1 el1 hl1 kk s0 1152921504606846976).1 = (readP l1 el1 hl1 kk s0 1152921504606846976).1 := rfl
                    rw [decide_eq_true t115]
                    refine Seq.rd0 at8 rfl rfl (O.move (v := .bool _) rfl) ?_
                    refine Seq.rd0 at9 rfl rfl (O.move (v := .bool _) (by exact s56)) ?_
                    refine Seq.rd0 at10 rfl rfl (O.neB ds_4 rfl rfl) ?_
                    refine Seq.rd0 at11 rfl rfl (O.pickF (v := .bool _) rfl rfl) ?_
                    refine Seq.nil ?_
                    refine hK113 ?_
                    refine Cd.cond (!((readP l1 el1 hl1 kk s0 1152921504606846976).2.1 == (readP l1 el1 hl1 kk s0 1152921504606846976).2.1)) rfl (fun t116 => ?_) (fun t116 => ?_)
                    · skip
                      simp at t116
                    · skip
                      refine Cd.skip ?_
                      refine hK62 ?_
                      refine Cd.region [0, 1, 2] rfl ?_
                      refine Seq.rd0 at0 rfl rfl (O.move (v := .int .i64 _) (by exact s57)) ?_
                      refine Seq.rd0 at1 rfl rfl (O.add rfl rfl (by omega) (by omega)) ?_
                      refine Seq.rd0 at2 rfl rfl (O.assign (v := .int .i64 _) rfl) ?_
                      refine Seq.nil ?_
                      refine Ent.drop ?_
                      exact hK58 _ (by omega) ⟨i + 1, l3, el3, hl3, ol3, Lq3, rfl, (by exact s51), (by exact s52), (by exact s53), (by exact s54), (by exact s55), (by exact s56), rfl, rfl, by omega, hp3, hI3, hst3, hgv3⟩
          · skip
            refine Cd.exit ?_
            refine hK46 ?_
            refine Cd.seq (fun K117 hK117 => ?_)
            refine Cd.region [0] rfl ?_
            refine Seq.rd0 at0 rfl rfl (O.assign (v := .bool _) rfl) ?_
            refine Seq.nil ?_
            refine hK117 ?_
            refine Cd.ret ?_
            exact hR _ L (Res.one (v := .bool _) rfl rfl) ⟨rfl, rfl⟩ (sub_app (G := Lq) (.cons _ (.cons _ (.refl _))))

end Go.X

namespace Go.X
open Go.Proofs

section
open Go.ChangeShapes Go.WideShapes Go.Deep Go.RowKit
variable {H : Type} {en : TypeId × Value → H} {W : World} {r : Reach} {b0 base : Nat} {spare : Nat → Bool} {held : Bool} {v : Value} {d : DataW H} {p : List MemPlace}
theorem okWide_arr {P : Program} {W : World} {r : Reach} {b0 : Nat} {t n e : TypeId} {v : Value} (ht : P.underlying t = some (.array n e)) (h : Value.okWide P W r b0 t v) : ∃ cs, v = .agg cs := by
  unfold Value.okWide at h
  rw [ht] at h
  obtain ⟨cs, rfl, _⟩ := h
  exact ⟨cs, rfl⟩
theorem arr_eq {a b : Array Value} (h : a.toList = b.toList) : a = b := Array.ext' h
set_option maxRecDepth 100000 in
theorem arg_Key (hv : Value.okWide Tryz.prog W r b0 45 v) (h : DataW.Trod en Tryz.prog W base spare held 45 v d p) : ∃ k : Key, v = .agg (Key_enc k) := by
  obtain ⟨cs, rfl⟩ := okWide_arr (n := 16) (e := 5) (by kernel_rfl) hv
  obtain ⟨n, hf⟩ := h
  obtain ⟨k, hk⟩ := dec_Key (e := 5) (by kernel_rfl) (by kernel_rfl) (by kernel_rfl) (by kernel_rfl) hf
  exact ⟨k, congrArg Value.agg (arr_eq hk)⟩
set_option maxRecDepth 100000 in
theorem arg_Stamp (hv : Value.okWide Tryz.prog W r b0 24 v) (h : DataW.Trod en Tryz.prog W base spare held 24 v d p) (hw : Fits Tryz.prog 24 d) : ∃ x : Stamp, v = .agg (Stamp_enc x) := by
  obtain ⟨cs, rfl, _⟩ := okWide_struct (fs := Tryz.prog.fieldsOf 24) (by kernel_rfl) hv
  obtain ⟨n, hf⟩ := h
  obtain ⟨x, hx, _⟩ := decStamp hf hw
  exact ⟨x, congrArg Value.agg (arr_eq hx)⟩
set_option maxRecDepth 100000 in
theorem arg_Entry (hv : Value.okWide Tryz.prog W r b0 27 v) (h : DataW.Trod en Tryz.prog W base spare held 27 v d p) (hw : Fits Tryz.prog 27 d) : ∃ x : Entry, v = .agg (Entry_enc x) ∧ (Lit.int .i64 x.id).wf = true ∧ wsIn W x.ws := by
  obtain ⟨cs, rfl, _⟩ := okWide_struct (fs := Tryz.prog.fieldsOf 27) (by kernel_rfl) hv
  obtain ⟨n, hf⟩ := h
  obtain ⟨x, hx, hq⟩ := decEntry hf hw
  exact ⟨x, congrArg Value.agg (arr_eq hx), hq⟩
/-- a list of types, a list of data: what fits all of it fits each -/
theorem fits_at {P : Program} {ts : List TypeId} {ds : List (DataW H)} (h : (DataW.weightsEach P ts ds).all (· ≤ reachBytes) = true) {i : Nat} {T : TypeId} {d : DataW H} (ht : ts[i]? = some T) (hd : ds[i]? = some d) : Fits P T d := fun m hm => by
  rw [List.all_eq_true] at h
  have := h m (each_mem ht hd hm)
  simpa using this
end

end Go.X

/- PartHolds' law: what is prepared can be committed, and is read from then on. -/
namespace Go.X
section
variable {l : List (Key × CV)} {el : List (I64 × EV)} {hl : List (Key × I64)} {ol : List (I64 × Int)} {ti : I64}
/-- the entry is prepared -/
def HeldE (el : List (I64 × EV)) (ti : I64) (e : Entry) (ws : List Write) : Prop := ∃ sv, alook el ti = some ({ e with ws := sv }, ws)
/-- another one's place is as it was -/
def Same (ti : I64) (el el2 : List (I64 × EV)) : Prop := ∀ t, t ≠ ti → alook el2 t = alook el t
theorem HeldE.same {el2 : List (I64 × EV)} {t : I64} {e : Entry} {ws : List Write} (h : HeldE el t e ws) (hs : Same ti el el2) (ht : t ≠ ti) : HeldE el2 t e ws := by
  obtain ⟨sv, h1⟩ := h; exact ⟨sv, (hs t ht).trans h1⟩
variable {pb : Nat} {Lp : List Pt} {en : Entry} {ws : List Write}
theorem holds_prep (hI : Inv l el hl ol) (ha : prepP l el hl ol ti en ws = 0 → ∃ sv, PtOwn pb l (aput el ti ({ en with ws := sv }, ws)) (holdL hl ws ti) ol Lp) (hb : ¬ prepP l el hl ol ti en ws = 0 → PtOwn pb l el hl ol Lp) :
    ∃ l2 el2 hl2 ol2, PtOwn pb l2 el2 hl2 ol2 Lp ∧ Inv l2 el2 hl2 ol2 ∧ Same ti el el2 ∧ (prepP l el hl ol ti en ws = 0 → HeldE el2 ti en ws) := by
  by_cases h0 : prepP l el hl ol ti en ws = 0
  · obtain ⟨sv, hp⟩ := ha h0
    exact ⟨_, _, _, _, hp, hI.prep h0, fun t ht => alook_put_ne _ ht _, fun _ => ⟨sv, alook_put_same _ _ _⟩⟩
  · exact ⟨_, _, _, _, hb h0, hI, fun _ _ => rfl, fun h => absurd h h0⟩
theorem holds_commit {l' : List (Key × CV)} (hI : Inv l el hl ol) {s' : Stamp} (hb : ¬ goC l ol el ti s' → PtOwn pb l el hl ol Lp) (ha : goC l ol el ti s' → PtOwn pb l' (adel el ti) (dropL hl (entT el ti).2) (aput ol ti 2) Lp ∧ (applyE l s' (entT el ti).2 = 0 → AppS s' l (entT el ti).2 l') ∧ (¬ applyE l s' (entT el ti).2 = 0 → l' = l)) :
    ∃ l2 el2 hl2 ol2, PtOwn pb l2 el2 hl2 ol2 Lp ∧ Inv l2 el2 hl2 ol2 ∧ Same ti el el2 := by
  by_cases h0 : goC l ol el ti s'
  · obtain ⟨hp, h1, h2⟩ := ha h0
    by_cases h3 : applyE l s' (entT el ti).2 = 0
    · exact ⟨_, _, _, _, hp, hI.commit (h1 h3), fun t ht => alook_del_ne ht _⟩
    · obtain rfl := h2 h3
      exact ⟨_, _, _, _, hp, hI.drop (.inl rfl), fun t ht => alook_del_ne ht _⟩
  · exact ⟨_, _, _, _, hb h0, hI, fun _ _ => rfl⟩
theorem holds_abort (hI : Inv l el hl ol) (ha : canAbortP ol el ti = 0 → PtOwn pb l (adel el ti) (dropL hl (entT el ti).2) (aput ol ti 3) Lp) (hb : ¬ canAbortP ol el ti = 0 → PtOwn pb l el hl ol Lp) :
    ∃ l2 el2 hl2 ol2, PtOwn pb l2 el2 hl2 ol2 Lp ∧ Inv l2 el2 hl2 ol2 ∧ Same ti el el2 := by
  by_cases h0 : canAbortP ol el ti = 0
  · exact ⟨_, _, _, _, ha h0, hI.drop (.inr rfl), fun t ht => alook_del_ne ht _⟩
  · exact ⟨_, _, _, _, hb h0, hI, fun _ _ => rfl⟩
theorem HeldE.good (hI : Inv l el hl ol) (h : HeldE el ti en ws) : goodE en ws = true := by
  obtain ⟨sv, h1⟩ := h
  have := (hI.ent ti _ h1).good
  exact this
theorem HeldE.entT (h : HeldE el ti en ws) : (Go.X.entT el ti).2 = ws ∧ (Go.X.entT el ti).1.stamp = en.stamp ∧ (Go.X.entT el ti).1.snap = en.snap := by
  obtain ⟨sv, h1⟩ := h
  rw [entT_some h1]; exact ⟨rfl, rfl, rfl⟩
theorem HeldE.state (hI : Inv l el hl ol) (h : HeldE el ti en ws) : stateP ol el ti = 1 := by
  obtain ⟨sv, h1⟩ := h
  rw [state_one hI.over, h1]
  exact ⟨hI.free ti _ h1, rfl⟩
/-- all versions of its keys are below its stamp, and below any that is not below that -/
theorem HeldE.below (hI : Inv l el hl ol) (h : HeldE el ti en ws) {c : Stamp} (hc : ¬ c.cmp en.stamp < 0) : ∀ w ∈ ws, ∀ v ∈ getS l w.key, v.stamp.lt c := by
  intro w hw v hv
  have hg := (goodE_parts (h.good hI)).2.2.2.2.2
  obtain ⟨sv, h1⟩ := h
  have h2 := (hI.ent ti _ h1).snap w hw v hv
  have h3 : v.stamp.lt en.stamp := by
    have h4 := lt_of_cmp hg
    have h5 : ¬ en.snap.lt v.stamp := fun h6 => h2 ((cmp_pos _ _).2 h6)
    rcases Stamp.lt_total v.stamp en.snap with h6 | h6 | h6
    · exact Stamp.lt_trans h6 h4
    · rw [h6]; exact h4
    · exact absurd h6 h5
  exact stamp_ge hc h3
theorem HeldE.can (hI : Inv l el hl ol) (h : HeldE el ti en ws) {c : Stamp} (hg : c.good) (hc : ¬ c.cmp en.stamp < 0) : canCommitP l ol el ti c = 0 ∧ ws.any (usedS l c) = false := by
  have hs := h.state hI
  have hb := h.below hI hc
  obtain ⟨h1, h2, _⟩ := h.entT
  have hu : ws.any (usedS l c) = false := by
    rw [List.any_eq_false]
    intro w hw
    have := hasS_no (vs := getS l w.key) (s := c) (fun v hv e => Stamp.lt_irrefl c (by have := hb w hw v hv; rwa [e] at this))
    unfold usedS; unfold hasS at this; rw [this]; decide
  refine ⟨?_, hu⟩
  unfold canCommitP
  rw [if_pos hg, if_neg (by omega), if_neg (by omega), if_neg (by omega), h2, if_neg hc, h1, if_neg (by rw [hu]; decide)]
theorem HeldE.commit (hI : Inv l el hl ol) (h : HeldE el ti en ws) {c : Stamp} (hg : c.good) (hc : ¬ c.cmp en.stamp < 0) : goC l ol el ti c ∧ applyE l c ws = 0 ∧ commitE l ol el ti c = 0 := by
  obtain ⟨h1, h2⟩ := h.can hI hg hc
  have h3 := h.state hI
  have hgo : goC l ol el ti c := ⟨h1, by omega⟩
  have ha : applyE l c ws = 0 := by
    obtain ⟨sv, h4⟩ := h
    exact apply_ok hI h4 hg h2
  refine ⟨hgo, ha, ?_⟩
  unfold commitE
  rw [if_pos hgo, h.entT.1]; exact ha
theorem HeldE.read (hI : Inv l el hl ol) (h : HeldE el ti en ws) {c : Stamp} {l' : List (Key × CV)} (hg : c.good) (hc : ¬ c.cmp en.stamp < 0) (hA : AppS c l ws l') {w : Write} (hw : w ∈ ws) :
    readP l' (adel el ti) (dropL hl ws) w.key c c.t = (w.val, !w.gone, 0) := by
  have hge := goodE_parts (h.good hI)
  have hgw := goodWs_mem hge.2.2.2.1 hw
  have hnd := goodWs_nodup hge.2.2.2.1
  have hb : (blocksT (adel el ti) (dropL hl ws) w.key c).2 = false := by
    unfold blocksT
    rw [dropL_look hI.hn, if_pos (List.mem_map.2 ⟨w, hw, rfl⟩)]
    simp
  rw [read_is hgw.1 hg hb (Int.lt_irrefl _)]
  have hlow := h.below hI hc w hw
  have hroom : (getS l w.key).length < 50 := by
    obtain ⟨sv, h4⟩ := h
    exact (hI.ent ti _ h4).room w hw
  have hpe : putE (getS l w.key) ⟨c, w.val, w.gone⟩ = 0 := by
    unfold putE
    rw [if_neg, if_neg, if_neg (by omega)]
    · rw [hasS_no (fun v hv e => Stamp.lt_irrefl c (by have := hlow v hv; rwa [e] at this))]; decide
    · rintro (h1 | h1 | h1)
      · exact h1 hg
      · have := hgw.2.1; simp only at h1; omega
      · exact hgw.2.2 h1
  have hs : getS l' w.key = putV (getS l w.key) ⟨c, w.val, w.gone⟩ := by
    rw [hA.getS_of hnd hw]; unfold afterPut; rw [if_pos hpe]
  have hat : atV (getS l' w.key) c = some ⟨c, w.val, w.gone⟩ := by
    rw [hs]; exact at_last (x := ⟨c, w.val, w.gone⟩) hlow
  unfold getV
  rw [hat]
  simp only
  cases hgn : w.gone with
  | false => simp
  | true =>
    have hv : w.val = ⟨#[]⟩ := by
      rcases Decidable.em (w.val = ⟨#[]⟩) with h1 | h1
      · exact h1
      · exact absurd ⟨hgn, h1⟩ hgw.2.2
    simp [hv]
theorem state_two {v : Int} : stateP (aput ol ti v) el ti = v := by unfold stateP; rw [alook_put_same]; rfl
end
end Go.X
