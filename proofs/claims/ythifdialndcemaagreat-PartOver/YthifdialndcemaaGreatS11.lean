/- Part 11 of the proofs over this program: what its functions compute. -/
import Derived.Test.YthifdialndcemaaGreatProg
import Derived.Test.YthifdialndcemaaGreatS10
set_option linter.unusedVariables false
set_option linter.unusedSimpArgs false

namespace Go.X
open Go.Proofs
theorem ei_22 : elemInfo Tryz.prog 22 = some (38, 18, 192, .agg #[.int .i64 0, .int .i64 0, .int .i64 0, .int .u8 0, .int .i64 0, .int .u8 0, .slice none 0 0, .int .i64 0, .int .u8 0, .int .i64 0, .int .i64 0, .int .i64 0, .int .u8 0, .int .i64 0, .int .u8 0, .slice none 0 0, .bool false, .slice none 0 0]) := by kernel_rfl
theorem acts_app {c : Cx} {L : List Pt} {xs ys : List Act} (h1 : ∀ x ∈ xs, ActOk c L x) (h2 : ∀ x ∈ ys, ActOk c L x) : ∀ x ∈ xs ++ ys, ActOk c L x := fun x hx => (List.mem_append.1 hx).elim (h1 x) (h2 x)
theorem goodE_stamp {e : Entry} {ws : List Write} (h : goodE e ws = true) : 0 ≤ e.stamp.t := (goodE_parts h).2.2.2.2.1.1
theorem up_good {e : Entry} {u : Int} (h0 : 0 ≤ e.stamp.t) (h1 : ¬ u < 0) (h2 : ¬ 1000 < u) (h3 : ¬ (1125899906842624 : Int) < e.stamp.t) : (⟨e.stamp.t + u, e.stamp.n⟩ : Stamp).good ∧ ¬ (⟨e.stamp.t + u, e.stamp.n⟩ : Stamp).cmp e.stamp < 0 := by
  constructor
  · unfold Stamp.good; simp only; omega
  · rw [cmp_neg]; unfold Stamp.lt; simp only; omega

theorem C_CommitE {c : Cx} {L : List Pt} {pb : Nat} {Ls : List Pt} {l : List (Key × CV)} {el : List (I64 × EV)} {hl : List (Key × I64)} {ol : List (I64 × Int)} (hPo : PtOwn pb l el hl ol Ls) {ti : I64} {s : Stamp} {x : Int} (hx : x = ti.1) : Fn Tryz.prog 17 #[.pointer (some ⟨pb, 0, none⟩), .int .i64 x, .agg (Stamp_enc s)] c (Ls ++ L) (fun v L' => v = .int .i64 (commitE l ol el ti s) ∧ ∃ l' Ls', L' = Ls' ++ L ∧ (¬ goC l ol el ti s → PtOwn pb l el hl ol Ls') ∧ (goC l ol el ti s → PtOwn pb l' (adel el ti) (dropL hl (entT el ti).2) (aput ol ti 2) Ls' ∧ (applyE l s (entT el ti).2 = 0 → AppS s l (entT el ti).2 l') ∧ (¬ applyE l s (entT el ti).2 = 0 → l' = l))) := by
  subst hx; exact C_Commit hPo

set_option maxRecDepth 100000 in
set_option maxHeartbeats 2000000 in
theorem C_PartHolds {c : Cx} {L : List Pt} {av : Option Addr} {nx cx : Nat} {xs : List Act} (hX : SlAt c L Act_enc av nx xs) (hQ : ∀ x ∈ xs, ActOk c L x) {en : Entry} {ws : List Write} (hE : SlAt c L Write_enc en.ws.a en.ws.n ws) {ti : I64} (hid : en.id = ti.1) {u : Int} {aw : Option Addr} {ny cy : Nat} {ys : List Act} (hY : SlAt c L Act_enc aw ny ys) (hQ2 : ∀ x ∈ ys, ActOk c L x) : Fn Tryz.prog 3 #[.slice av nx cx, .agg (Entry_enc en), .slice aw ny cy, .int .i64 u] c L (fun v L' => v = .bool true ∧ L' = L) := by
  have hwl := hX.len
  have hwt := hX.lt
  have hwl2 := hY.len
  have hwt2 := hY.lt
  have hwl3 := hE.len
  have hwt3 := hE.lt
  obtain ⟨zs, hzs⟩ : ∃ zs, zs = xs ++ ys := ⟨_, rfl⟩
  have hQ3 : ∀ x ∈ zs, ActOk c L x := by rw [hzs]; exact acts_app hQ hQ2
  refine Fn.enter Tryz.func3 rfl 194 rfl rfl (fun R hR => ?_)
  refine Cd.seq (fun K1 hK1 => ?_)
  refine Cd.region [0, 1] rfl ?_
  refine Seq.op at0 rfl (Op.new rfl (O.box (v := .agg _) rfl (cs := (Entry_enc en)) rfl) ?_)
  intro b2 hb2
  refine Seq.rd0 at1 rfl rfl (O.assign (v := .bool _) rfl) ?_
  refine Seq.nil ?_
  refine hK1 ?_
  refine Cd.seq (fun K3 hK3 => ?_)
  refine Cd.seq (fun K4 hK4 => ?_)
  refine Cd.region [0, 1] rfl ?_
  refine Seq.op at0 rfl (Op.callF rfl hb_13 C_awake rfl ?_)
  rintro _ _ ⟨rfl, rfl⟩
  refine Seq.rd0 at1 rfl rfl (O.not rfl) ?_
  refine Seq.nil ?_
  refine hK4 ?_
  refine Cd.condF rfl ?_
  refine Cd.skip ?_
  refine hK3 ?_
  refine Cd.seq (fun K5 hK5 => ?_)
  refine Cd.seq (fun K6 hK6 => ?_)
  refine Cd.region [0, 1, 2, 3, 4, 5, 6, 7, 8, 9, 10, 11, 12, 13, 14, 15, 16, 17, 18, 19, 20, 21, 22, 23, 24, 25, 26] rfl ?_
  refine Seq.rd0 at0 rfl rfl (O.move (v := .slice _ _ _) rfl) ?_
  refine Seq.rd0 at1 rfl rfl (O.lenS ds_22 rfl) ?_
  refine Seq.rd0 at2 rfl rfl (O.gtr rfl rfl) ?_
  refine Seq.rd0 at3 rfl rfl (O.move (v := .bool _) rfl) ?_
  by_cases t7 : (15 : Int) < (nx : Int)
  · rw [decide_eq_true t7]
    refine Seq.pass at4 rfl rfl ?_
    refine Seq.pass at5 rfl rfl ?_
    refine Seq.pass at6 rfl rfl ?_
    refine Seq.rd0 at7 rfl rfl (O.pickT (v := .bool _) rfl rfl) ?_
    refine Seq.rd0 at8 rfl rfl (O.move (v := .bool _) rfl) ?_
    refine Seq.pass at9 rfl rfl ?_
    refine Seq.pass at10 rfl rfl ?_
    refine Seq.pass at11 rfl rfl ?_
    refine Seq.rd0 at12 rfl rfl (O.pickT (v := .bool _) rfl rfl) ?_
    refine Seq.rd0 at13 rfl rfl (O.move (v := .bool _) rfl) ?_
    refine Seq.pass at14 rfl rfl ?_
    refine Seq.pass at15 rfl rfl ?_
    refine Seq.rd0 at16 rfl rfl (O.pickT (v := .bool _) rfl rfl) ?_
    refine Seq.rd0 at17 rfl rfl (O.move (v := .bool _) rfl) ?_
    refine Seq.pass at18 rfl rfl ?_
    refine Seq.pass at19 rfl rfl ?_
    refine Seq.rd0 at20 rfl rfl (O.pickT (v := .bool _) rfl rfl) ?_
    refine Seq.rd0 at21 rfl rfl (O.move (v := .bool _) rfl) ?_
    refine Seq.pass at22 rfl rfl ?_
    refine Seq.pass at23 rfl rfl ?_
    refine Seq.pass at24 rfl rfl ?_
    refine Seq.pass at25 rfl rfl ?_
    refine Seq.rd0 at26 rfl rfl (O.pickT (v := .bool _) rfl rfl) ?_
    refine Seq.nil ?_
    refine hK6 ?_
    refine Cd.condT rfl ?_
    refine Cd.seq (fun K8 hK8 => ?_)
    refine Cd.region [0] rfl ?_
    refine Seq.rd0 at0 rfl rfl (O.assign (v := .bool _) rfl) ?_
    refine Seq.nil ?_
    refine hK8 ?_
    refine Cd.ret ?_
    exact hR _ L (Res.one (v := .bool _) rfl rfl) ⟨rfl, rfl⟩ (.cons _ (.refl _))
  · rw [decide_eq_false t7]
    refine Seq.rd0 at4 rfl rfl (O.move (v := .slice _ _ _) rfl) ?_
    refine Seq.rd0 at5 rfl rfl (O.lenS ds_22 rfl) ?_
    refine Seq.rd0 at6 rfl rfl (O.gtr rfl rfl) ?_
    refine Seq.rd0 at7 rfl rfl (O.pickF (v := .bool _) rfl rfl) ?_
    refine Seq.rd0 at8 rfl rfl (O.move (v := .bool _) rfl) ?_
    by_cases t9 : (15 : Int) < (ny : Int)
    · rw [decide_eq_true t9]
      refine Seq.pass at9 rfl rfl ?_
      refine Seq.pass at10 rfl rfl ?_
      refine Seq.pass at11 rfl rfl ?_
      refine Seq.rd0 at12 rfl rfl (O.pickT (v := .bool _) rfl rfl) ?_
      refine Seq.rd0 at13 rfl rfl (O.move (v := .bool _) rfl) ?_
      refine Seq.pass at14 rfl rfl ?_
      refine Seq.pass at15 rfl rfl ?_
      refine Seq.rd0 at16 rfl rfl (O.pickT (v := .bool _) rfl rfl) ?_
      refine Seq.rd0 at17 rfl rfl (O.move (v := .bool _) rfl) ?_
      refine Seq.pass at18 rfl rfl ?_
      refine Seq.pass at19 rfl rfl ?_
      refine Seq.rd0 at20 rfl rfl (O.pickT (v := .bool _) rfl rfl) ?_
      refine Seq.rd0 at21 rfl rfl (O.move (v := .bool _) rfl) ?_
      refine Seq.pass at22 rfl rfl ?_
      refine Seq.pass at23 rfl rfl ?_
      refine Seq.pass at24 rfl rfl ?_
      refine Seq.pass at25 rfl rfl ?_
      refine Seq.rd0 at26 rfl rfl (O.pickT (v := .bool _) rfl rfl) ?_
      refine Seq.nil ?_
      refine hK6 ?_
      refine Cd.condT rfl ?_
      refine Cd.seq (fun K10 hK10 => ?_)
      refine Cd.region [0] rfl ?_
      refine Seq.rd0 at0 rfl rfl (O.assign (v := .bool _) rfl) ?_
      refine Seq.nil ?_
      refine hK10 ?_
      refine Cd.ret ?_
      exact hR _ L (Res.one (v := .bool _) rfl rfl) ⟨rfl, rfl⟩ (.cons _ (.refl _))
    · rw [decide_eq_false t9]
      refine Seq.rd0 at9 rfl rfl (O.field fo_27_3 rfl) ?_
      refine Seq.rd1 at10 rfl rfl (O.load kd_25 rfl (Entry_ws _)) Rd.head ?_
      refine Seq.op at11 rfl (Op.callF rfl hb_14 (C_long (hE.cons)) rfl ?_)
      rintro _ _ ⟨rfl, rfl⟩
      refine Seq.rd0 at12 rfl rfl (O.pickF (v := .bool _) rfl rfl) ?_
      refine Seq.rd0 at13 rfl rfl (O.move (v := .bool _) rfl) ?_
      cases t11 : (longP ws)
      · skip
        refine Seq.rd0 at14 rfl rfl (O.move (v := .int .i64 _) rfl) ?_
        refine Seq.rd0 at15 rfl rfl (O.lss rfl rfl) ?_
        refine Seq.rd0 at16 rfl rfl (O.pickF (v := .bool _) rfl rfl) ?_
        refine Seq.rd0 at17 rfl rfl (O.move (v := .bool _) rfl) ?_
        by_cases t12 : u < 0
        · rw [decide_eq_true t12]
          refine Seq.pass at18 rfl rfl ?_
          refine Seq.pass at19 rfl rfl ?_
          refine Seq.rd0 at20 rfl rfl (O.pickT (v := .bool _) rfl rfl) ?_
          refine Seq.rd0 at21 rfl rfl (O.move (v := .bool _) rfl) ?_
          refine Seq.pass at22 rfl rfl ?_
          refine Seq.pass at23 rfl rfl ?_
          refine Seq.pass at24 rfl rfl ?_
          refine Seq.pass at25 rfl rfl ?_
          refine Seq.rd0 at26 rfl rfl (O.pickT (v := .bool _) rfl rfl) ?_
          refine Seq.nil ?_
          refine hK6 ?_
          refine Cd.condT rfl ?_
          refine Cd.seq (fun K13 hK13 => ?_)
          refine Cd.region [0] rfl ?_
          refine Seq.rd0 at0 rfl rfl (O.assign (v := .bool _) rfl) ?_
          refine Seq.nil ?_
          refine hK13 ?_
          refine Cd.ret ?_
          exact hR _ L (Res.one (v := .bool _) rfl rfl) ⟨rfl, rfl⟩ (.cons _ (.refl _))
        · rw [decide_eq_false t12]
          refine Seq.rd0 at18 rfl rfl (O.move (v := .int .i64 _) rfl) ?_
          refine Seq.rd0 at19 rfl rfl (O.gtr rfl rfl) ?_
          refine Seq.rd0 at20 rfl rfl (O.pickF (v := .bool _) rfl rfl) ?_
          refine Seq.rd0 at21 rfl rfl (O.move (v := .bool _) rfl) ?_
          by_cases t14 : (1000 : Int) < u
          · rw [decide_eq_true t14]
            refine Seq.pass at22 rfl rfl ?_
            refine Seq.pass at23 rfl rfl ?_
            refine Seq.pass at24 rfl rfl ?_
            refine Seq.pass at25 rfl rfl ?_
            refine Seq.rd0 at26 rfl rfl (O.pickT (v := .bool _) rfl rfl) ?_
            refine Seq.nil ?_
            refine hK6 ?_
            refine Cd.condT rfl ?_
            refine Cd.seq (fun K15 hK15 => ?_)
            refine Cd.region [0] rfl ?_
            refine Seq.rd0 at0 rfl rfl (O.assign (v := .bool _) rfl) ?_
            refine Seq.nil ?_
            refine hK15 ?_
            refine Cd.ret ?_
            exact hR _ L (Res.one (v := .bool _) rfl rfl) ⟨rfl, rfl⟩ (.cons _ (.refl _))
          · rw [decide_eq_false t14]
            refine Seq.rd0 at22 rfl rfl (O.field fo_27_2 rfl) ?_
            refine Seq.rd0 at23 rfl rfl (O.field fo_24_0 rfl) ?_
            refine Seq.rd1 at24 rfl rfl (O.load kd_2 rfl (Entry_stamp_t _)) Rd.head ?_
            refine Seq.rd0 at25 rfl rfl (O.gtr rfl rfl) ?_
            refine Seq.rd0 at26 rfl rfl (O.pickF (v := .bool _) rfl rfl) ?_
            refine Seq.nil ?_
            refine hK6 ?_
            refine Cd.if ((1125899906842624 : Int) < en.stamp.t) rfl (fun t16 => ?_) (fun t16 => ?_)
            · skip
              refine Cd.seq (fun K17 hK17 => ?_)
              refine Cd.region [0] rfl ?_
              refine Seq.rd0 at0 rfl rfl (O.assign (v := .bool _) rfl) ?_
              refine Seq.nil ?_
              refine hK17 ?_
              refine Cd.ret ?_
              exact hR _ L (Res.one (v := .bool _) rfl rfl) ⟨rfl, rfl⟩ (.cons _ (.refl _))
            · skip
              refine Cd.skip ?_
              refine hK5 ?_
              refine Cd.seq (fun K18 hK18 => ?_)
              refine Cd.region [0, 1] rfl ?_
              refine Seq.op at0 rfl (Op.callF rfl hb_15 C_part_New2 rfl ?_)
              rintro _ _ ⟨pb, Lp0, rfl, hp0, rfl⟩
              refine Seq.rd0 at1 rfl rfl (O.assign (v := .pointer _) rfl) ?_
              refine Seq.nil ?_
              refine hK18 ?_
              refine Cd.seq (fun K19 hK19 => ?_)
              refine Cd.seq (fun K20 hK20 => ?_)
              refine Cd.region [0] rfl ?_
              refine Seq.rd0 at0 rfl rfl (O.assign (v := .int .i64 _) rfl) ?_
              refine Seq.nil ?_
              refine hK20 ?_
              refine Cd.block ?_
              refine Cd.loop (fun m21 e22 L23 => ∃ i : Nat, ∃ l1 : List (Key × CV), ∃ el1 : List (I64 × EV), ∃ hl1 : List (Key × I64), ∃ ol1 : List (I64 × Int), ∃ L1 : List Pt, m21 = xs.length + ys.length - i ∧ e22 0 = .slice av nx cx ∧ e22 2 = .slice aw ny cy ∧ e22 3 = .int .i64 u ∧ e22 5 = .pointer (some ⟨b2, 0, none⟩) ∧ e22 9 = .pointer (some ⟨pb, 0, none⟩) ∧ e22 10 = .int .i64 (i : Int) ∧ L23 = (L1 ++ ((b2, .cells (Entry_enc en) 27 (0, 0)) :: L)) ∧ i ≤ xs.length + ys.length ∧ PtOwn pb l1 el1 hl1 ol1 L1 ∧ Inv l1 el1 hl1 ol1 ∧ (xs.length < i → HeldE el1 ti en ws)) _ ⟨0, [], [], [], [], Lp0, rfl, rfl, rfl, rfl, rfl, rfl, rfl, rfl, Nat.zero_le _, hp0, Inv.nil, fun h => absurd h (Nat.not_lt_zero _)⟩ ?_
              rintro _ e22 _ ⟨i, l1, el1, hl1, ol1, L1, rfl, s24, s25, s26, s27, s28, s29, rfl, hi, hp1, hI1, hh1⟩ K30 hK30
              refine Cd.seq (fun K31 hK31 => ?_)
              refine Cd.seq (fun K32 hK32 => ?_)
              refine Cd.region [0, 1, 2, 3, 4, 5, 6] rfl ?_
              refine Seq.rd0 at0 rfl rfl (O.move (v := .int .i64 _) (by exact s29)) ?_
              refine Seq.rd0 at1 rfl rfl (O.move (v := .slice _ _ _) (by exact s24)) ?_
              refine Seq.rd0 at2 rfl rfl (O.lenS ds_22 rfl) ?_
              refine Seq.rd0 at3 rfl rfl (O.move (v := .slice _ _ _) (by exact s25)) ?_
              refine Seq.rd0 at4 rfl rfl (O.lenS ds_22 rfl) ?_
              refine Seq.rd0 at5 rfl rfl (O.add rfl rfl (by omega) (by omega)) ?_
              refine Seq.rd0 at6 rfl rfl (O.lss rfl rfl) ?_
              refine Seq.nil ?_
              refine hK32 ?_
              refine Cd.if ((i : Int) < ((nx : Int) + (ny : Int))) rfl (fun t33 => ?_) (fun t33 => ?_)
              · skip
                refine Cd.skip ?_
                refine hK31 ?_
                refine Cd.seq (fun K34 hK34 => ?_)
                refine Cd.block ?_
                refine Cd.seq (fun K35 hK35 => ?_)
                refine Cd.seq (fun K36 hK36 => ?_)
                refine Cd.region [0, 1, 2, 3, 4, 5, 6, 7, 8, 9] rfl ?_
                refine Seq.rd0 at0 rfl rfl (O.move (v := .int .i64 _) (by exact s29)) ?_
                refine Seq.rd0 at1 rfl rfl (O.move (v := .slice _ _ _) (by exact s24)) ?_
                refine Seq.rd0 at2 rfl rfl (O.lenS ds_22 rfl) ?_
                refine Seq.rd0 at3 rfl rfl (O.eqI rfl rfl) ?_
                refine Seq.rd0 at4 rfl rfl (O.move (v := .bool _) rfl) ?_
                by_cases t37 : (i : Int) = (nx : Int)
                · rw [decide_eq_true t37]
                  refine Seq.rd0 at5 rfl rfl (O.move (v := .pointer _) (by exact s28)) ?_
                  refine Seq.rd1 at6 rfl rfl (O.loadA kd_27 (by exact s27) (Nat.le_of_ble_eq_true rfl) (Entry_all _)) Rd.head.app ?_
                  refine Seq.op at7 rfl (Op.callF rfl hb_16 (Fn.perm (C_Prepare (L := ([]) ++ ((b2, .cells (Entry_enc en) 27 (0, 0)) :: L)) hp1 (en := en) (ws := ws) (hE.cons) (ti := ti) hid hI1.over) (bring (pre := ([])) (Ls := L1) (R := ((b2, .cells (Entry_enc en) 27 (0, 0)) :: L)))) rfl ?_)
                  rintro _ _ ⟨rfl, L2, rfl, ha2, hb2⟩
                  obtain ⟨l2, el2, hl2, ol2, hp2, hI2, hs2, hpr2⟩ := holds_prep hI1 ha2 hb2
                  refine Ent.perm ?_ (bring (Ls := L2) (pre := ([])) (R := ((b2, .cells (Entry_enc en) 27 (0, 0)) :: L))).symm
                  refine Seq.rd0 at8 rfl rfl (O.neI rfl rfl) ?_
                  refine Seq.rd0 at9 rfl rfl (O.pickT (v := .bool _) rfl rfl) ?_
                  refine Seq.nil ?_
                  refine hK36 ?_
                  refine Cd.ifn ((prepP l1 el1 hl1 ol1 ti en ws) = 0) rfl (fun t38 => ?_) (fun t38 => ?_)
                  · skip
                    refine Cd.seq (fun K39 hK39 => ?_)
                    refine Cd.region [0] rfl ?_
                    refine Seq.rd0 at0 rfl rfl (O.assign (v := .bool _) rfl) ?_
                    refine Seq.nil ?_
                    refine hK39 ?_
                    refine Cd.ret ?_
                    exact hR _ L (Res.one (v := .bool _) rfl rfl) ⟨rfl, rfl⟩ (sub_app (G := L2) (.cons _ (.refl _)))
                  · skip
                    refine Cd.skip ?_
                    refine hK35 ?_
                    refine Cd.seq (fun K40 hK40 => ?_)
                    refine Cd.region [0, 1, 2, 3, 4, 5, 6, 7, 8, 9] rfl ?_
                    obtain ⟨l5, el5, hl5, ol5, L5, hL5, hp5, hI5, hh5⟩ : ∃ l5 el5 hl5 ol5 L5, L5 = L2 ∧ PtOwn pb l5 el5 hl5 ol5 L5 ∧ Inv l5 el5 hl5 ol5 ∧ (xs.length ≤ i → HeldE el5 ti en ws) := by
                      refine ⟨_, _, _, _, _, rfl, hp2, hI2, ?_⟩
                      first | exact fun _ => hpr2 (by assumption) | exact hpr2 (by assumption)
                    rw [← hL5]
                    refine Seq.op at0 rfl (Op.new rfl (O.buildSlice (el := 38) rfl (cs := (rows Act_enc [])) (by kernel_rfl)) ?_)
                    intro b41 hb41
                    refine Seq.rd0 at1 rfl rfl (O.move (v := .slice _ _ _) (by exact s24)) ?_
                    refine Seq.op at2 rfl (Op.gen rfl (O.appendOwnZ (k := nx) (new := rows Act_enc xs) (m := 0) (old := rows Act_enc []) (Ls := [(b41, _)]) (R := (L5 ++ ((b2, .cells (Entry_enc en) 27 (0, 0)) :: L))) ei_22 ds_22 (by decide) rfl (.inr ⟨b41, 0, #[], rfl, Nat.le_refl _, rfl, rfl, rfl⟩) ((hX.cons.app.cons).src Act_size) (rows_ones Act_one) (by omega)) ?_)
                    rintro _ _ ⟨La, hoa, rfl⟩
                    obtain ⟨a7, c7, rfl⟩ := hoa.form
                    refine Seq.rd0 at3 rfl rfl (O.move (v := .slice _ _ _) (by exact s25)) ?_
                    refine Seq.op at4 rfl (Op.gen rfl (O.appendOwnZ (k := ny) (new := rows Act_enc ys) (m := 0 + nx) (old := rows Act_enc [] ++ rows Act_enc xs) (Ls := La) (R := (L5 ++ ((b2, .cells (Entry_enc en) 27 (0, 0)) :: L))) ei_22 ds_22 (by decide) rfl hoa ((hY.cons.app.app).src Act_size) (rows_ones Act_one) (by omega)) ?_)
                    rintro _ _ ⟨Lb, hob, rfl⟩
                    obtain ⟨a8, c8, rfl⟩ := hob.form
                    rw [← rows_append, ← rows_append, List.nil_append, ← hzs] at hob
                    have hZ := OwnSl.at_ (c := c) (R := (L5 ++ ((b2, .cells (Entry_enc en) 27 (0, 0)) :: L))) hob (by rw [hzs, List.length_append]; omega) (by omega)
                    refine Seq.rd0 at5 rfl rfl (O.move (v := .int .i64 _) (by exact s29)) ?_
                    have hzl : zs.length = xs.length + ys.length := by rw [hzs, List.length_append]
                    have hlt42 : i < zs.length := by omega
                    obtain ⟨pre42, sp42, el42, fz42, hav42, hrd42⟩ := hZ.at_ hlt42
                    obtain ⟨hwf, wsi, hWi⟩ := hQ3 _ (List.getElem_mem hlt42)
                    refine Seq.rd0 at6 rfl rfl (O.indexG sl_22 rfl hav42 rfl (by omega) (by omega)) ?_
                    refine Seq.rd1 at7 rfl rfl (O.loadA kd_38 rfl (rowRoomP Act_size (getN hlt42)) (rowAtP Act_size (getN hlt42))) hrd42 ?_
                    refine Seq.op at8 rfl (Op.new rfl (O.alloc zo_38 (cs := (Act_enc Act.zero)) rfl) ?_)
                    intro b43 hb43
                    refine Seq.op at9 rfl (Op.set0 rfl (O.store kd_38 rfl (v := .agg _) rfl (Act_size _) (Act_room (Act_size _)) (Act_one _) (Act_put _ (Act_size _))) ?_)
                    refine Ent.sub ?_ (.cons_cons _ (sub_app (.refl _)))
                    refine Seq.nil ?_
                    refine hK40 ?_
                    refine Cd.seq (fun K44 hK44 => ?_)
                    refine Cd.seq (fun K45 hK45 => ?_)
                    refine Cd.region [0, 1, 2, 3] rfl ?_
                    refine Seq.rd0 at0 rfl rfl (O.field fo_38_1 rfl) ?_
                    refine Seq.rd0 at1 rfl rfl (O.field fo_27_3 rfl) ?_
                    refine Seq.rd1 at2 rfl rfl (O.load kd_25 rfl (Act_e_ws _)) Rd.head ?_
                    refine Seq.op at3 rfl (Op.callF rfl hb_14 (C_long (hWi.cons.app.cons)) rfl ?_)
                    rintro _ _ ⟨rfl, rfl⟩
                    refine Seq.nil ?_
                    refine hK45 ?_
                    refine Cd.cond ((longP wsi)) rfl (fun t46 => ?_) (fun t46 => ?_)
                    · skip
                      refine Cd.seq (fun K47 hK47 => ?_)
                      refine Cd.region [0] rfl ?_
                      refine Seq.rd0 at0 rfl rfl (O.assign (v := .bool _) rfl) ?_
                      refine Seq.nil ?_
                      refine hK47 ?_
                      refine Cd.ret ?_
                      exact hR _ L (Res.one (v := .bool _) rfl rfl) ⟨rfl, rfl⟩ (.cons _ (sub_app (G := L5) (.cons _ (.refl _))))
                    · skip
                      refine Cd.skip ?_
                      refine hK44 ?_
                      refine Cd.seq (fun K48 hK48 => ?_)
                      refine Cd.seq (fun K49 hK49 => ?_)
                      refine Cd.region [0, 1, 2, 3, 4, 5, 6, 7, 8, 9, 10, 11] rfl ?_
                      refine Seq.rd0 at0 rfl rfl (O.move (v := .int .i64 _) (by exact s29)) ?_
                      refine Seq.rd0 at1 rfl rfl (O.move (v := .slice _ _ _) (by exact s24)) ?_
                      refine Seq.rd0 at2 rfl rfl (O.lenS ds_22 rfl) ?_
                      refine Seq.rd0 at3 rfl rfl (O.geq rfl rfl) ?_
                      refine Seq.rd0 at4 rfl rfl (O.move (v := .bool _) rfl) ?_
                      by_cases t50 : (nx : Int) ≤ (i : Int)
                      · rw [decide_eq_true t50]
                        refine Seq.rd0 at5 rfl rfl (O.field fo_38_1 rfl) ?_
                        refine Seq.rd0 at6 rfl rfl (O.field fo_27_0 rfl) ?_
                        refine Seq.rd1 at7 rfl rfl (O.load kd_2 rfl (Act_e_id _)) Rd.head ?_
                        refine Seq.rd0 at8 rfl rfl (O.field fo_27_0 (by exact s27)) ?_
                        refine Seq.rd1 at9 rfl rfl (O.load kd_2 rfl (Entry_id _)) Rd.head.app.cons ?_
                        refine Seq.rd0 at10 rfl rfl (O.eqI rfl rfl) ?_
                        refine Seq.rd0 at11 rfl rfl (O.pickT (v := .bool _) rfl rfl) ?_
                        refine Seq.nil ?_
                        refine hK49 ?_
                        refine Cd.if (zs[i].e.id = en.id) rfl (fun t51 => ?_) (fun t51 => ?_)
                        · skip
                          refine Cd.exit ?_
                          refine hK34 ?_
                          refine Cd.region [0, 1, 2] rfl ?_
                          refine Seq.rd0 at0 rfl rfl (O.move (v := .int .i64 _) (by exact s29)) ?_
                          refine Seq.rd0 at1 rfl rfl (O.add rfl rfl (by omega) (by omega)) ?_
                          refine Seq.rd0 at2 rfl rfl (O.assign (v := .int .i64 _) rfl) ?_
                          refine Seq.nil ?_
                          refine Ent.drop ?_
                          exact hK30 _ (by omega) ⟨i + 1, l5, el5, hl5, ol5, L5, rfl, (by exact s24), (by exact s25), (by exact s26), (by exact s27), (by exact s28), rfl, rfl, by omega, hp5, hI5, fun hle => hh5 (by omega)⟩
                        · skip
                          refine Cd.skip ?_
                          refine hK48 ?_
                          refine Cd.seq (fun K52 hK52 => ?_)
                          refine Cd.region [0, 1] rfl ?_
                          refine Seq.rd0 at0 rfl rfl (O.field fo_38_0 rfl) ?_
                          refine Seq.rd1 at1 rfl rfl (O.load kd_3 rfl (Act_op _)) Rd.head ?_
                          refine Seq.nil ?_
                          refine hK52 ?_
                          refine Cd.block ?_
                          refine Cd.seq (fun K53 hK53 => ?_)
                          refine Cd.region [0, 1] rfl ?_
                          refine Seq.rd0 at0 rfl rfl (O.eqI rfl rfl) ?_
                          refine Seq.rd0 at1 rfl rfl (O.assign (v := .bool _) rfl) ?_
                          refine Seq.nil ?_
                          refine hK53 ?_
                          refine Cd.if (zs[i].op = 0) rfl (fun t54 => ?_) (fun t54 => ?_)
                          · skip
                            refine Cd.region [0, 1, 2, 3] rfl ?_
                            refine Seq.rd0 at0 rfl rfl (O.move (v := .pointer _) (by exact s28)) ?_
                            refine Seq.rd0 at1 rfl rfl (O.field fo_38_1 rfl) ?_
                            refine Seq.rd1 at2 rfl rfl (O.loadA kd_27 rfl (Nat.le_of_ble_eq_true rfl) (Act_e _)) Rd.head ?_
                            refine Seq.op at3 rfl (Op.callF rfl hb_16 (Fn.perm (C_Prepare (L := ((b43, _) :: []) ++ ((b2, .cells (Entry_enc en) 27 (0, 0)) :: L)) hp5 (en := zs[i].e) (ws := wsi) (hWi.cons.cons) (ti := (⟨zs[i].e.id, hwf⟩ : I64)) rfl hI5.over) (bring (pre := ((b43, _) :: [])) (Ls := L5) (R := ((b2, .cells (Entry_enc en) 27 (0, 0)) :: L)))) rfl ?_)
                            rintro _ _ ⟨rfl, L6, rfl, ha6, hb6⟩
                            obtain ⟨l6, el6, hl6, ol6, hp6, hI6, hs6, _⟩ := holds_prep hI5 ha6 hb6
                            have hh6 : xs.length ≤ i → HeldE el6 ti en ws := fun hle => by first | (exfalso; omega) | exact (hh5 hle).same hs6 (fun e9 => (show ¬ zs[i].e.id = en.id by assumption) ((hid.trans (congrArg Subtype.val e9)).symm))
                            refine Ent.perm ?_ (bring (Ls := L6) (pre := ((b43, _) :: [])) (R := ((b2, .cells (Entry_enc en) 27 (0, 0)) :: L))).symm
                            refine Seq.nil ?_
                            refine hK34 ?_
                            refine Cd.region [0, 1, 2] rfl ?_
                            refine Seq.rd0 at0 rfl rfl (O.move (v := .int .i64 _) (by exact s29)) ?_
                            refine Seq.rd0 at1 rfl rfl (O.add rfl rfl (by omega) (by omega)) ?_
                            refine Seq.rd0 at2 rfl rfl (O.assign (v := .int .i64 _) rfl) ?_
                            refine Seq.nil ?_
                            refine Ent.drop ?_
                            exact hK30 _ (by omega) ⟨i + 1, l6, el6, hl6, ol6, L6, rfl, (by exact s24), (by exact s25), (by exact s26), (by exact s27), (by exact s28), rfl, rfl, by omega, hp6, hI6, fun hle => hh6 (by omega)⟩
                          · skip
                            refine Cd.seq (fun K55 hK55 => ?_)
                            refine Cd.region [0, 1] rfl ?_
                            refine Seq.rd0 at0 rfl rfl (O.eqI rfl rfl) ?_
                            refine Seq.rd0 at1 rfl rfl (O.assign (v := .bool _) rfl) ?_
                            refine Seq.nil ?_
                            refine hK55 ?_
                            refine Cd.if (zs[i].op = 1) rfl (fun t56 => ?_) (fun t56 => ?_)
                            · skip
                              refine Cd.region [0, 1, 2, 3, 4, 5, 6] rfl ?_
                              refine Seq.rd0 at0 rfl rfl (O.move (v := .pointer _) (by exact s28)) ?_
                              refine Seq.rd0 at1 rfl rfl (O.field fo_38_1 rfl) ?_
                              refine Seq.rd0 at2 rfl rfl (O.field fo_27_0 rfl) ?_
                              refine Seq.rd1 at3 rfl rfl (O.load kd_2 rfl (Act_e_id _)) Rd.head ?_
                              refine Seq.rd0 at4 rfl rfl (O.field fo_38_2 rfl) ?_
                              refine Seq.rd1 at5 rfl rfl (O.loadA kd_24 rfl (Nat.le_of_ble_eq_true rfl) (Act_at_ _)) Rd.head ?_
                              refine Seq.op at6 rfl (Op.callF rfl hb_17 (Fn.perm (C_Commit (L := ((b43, _) :: []) ++ ((b2, .cells (Entry_enc en) 27 (0, 0)) :: L)) hp5 (ti := (⟨zs[i].e.id, hwf⟩ : I64)) (s := zs[i].at_)) (bring (pre := ((b43, _) :: [])) (Ls := L5) (R := ((b2, .cells (Entry_enc en) 27 (0, 0)) :: L)))) rfl ?_)
                              rintro _ _ ⟨rfl, l9, L6, rfl, hb6, ha6⟩
                              obtain ⟨l6, el6, hl6, ol6, hp6, hI6, hs6⟩ := holds_commit hI5 hb6 ha6
                              have hh6 : xs.length ≤ i → HeldE el6 ti en ws := fun hle => by first | (exfalso; omega) | exact (hh5 hle).same hs6 (fun e9 => (show ¬ zs[i].e.id = en.id by assumption) ((hid.trans (congrArg Subtype.val e9)).symm))
                              refine Ent.perm ?_ (bring (Ls := L6) (pre := ((b43, _) :: [])) (R := ((b2, .cells (Entry_enc en) 27 (0, 0)) :: L))).symm
                              refine Seq.nil ?_
                              refine hK34 ?_
                              refine Cd.region [0, 1, 2] rfl ?_
                              refine Seq.rd0 at0 rfl rfl (O.move (v := .int .i64 _) (by exact s29)) ?_
                              refine Seq.rd0 at1 rfl rfl (O.add rfl rfl (by omega) (by omega)) ?_
                              refine Seq.rd0 at2 rfl rfl (O.assign (v := .int .i64 _) rfl) ?_
                              refine Seq.nil ?_
                              refine Ent.drop ?_
                              exact hK30 _ (by omega) ⟨i + 1, l6, el6, hl6, ol6, L6, rfl, (by exact s24), (by exact s25), (by exact s26), (by exact s27), (by exact s28), rfl, rfl, by omega, hp6, hI6, fun hle => hh6 (by omega)⟩
                            · skip
                              refine Cd.seq (fun K57 hK57 => ?_)
                              refine Cd.region [0, 1] rfl ?_
                              refine Seq.rd0 at0 rfl rfl (O.eqI rfl rfl) ?_
                              refine Seq.rd0 at1 rfl rfl (O.assign (v := .bool _) rfl) ?_
                              refine Seq.nil ?_
                              refine hK57 ?_
                              refine Cd.if (zs[i].op = 2) rfl (fun t58 => ?_) (fun t58 => ?_)
                              · skip
                                refine Cd.region [0, 1, 2, 3, 4] rfl ?_
                                refine Seq.rd0 at0 rfl rfl (O.move (v := .pointer _) (by exact s28)) ?_
                                refine Seq.rd0 at1 rfl rfl (O.field fo_38_1 rfl) ?_
                                refine Seq.rd0 at2 rfl rfl (O.field fo_27_0 rfl) ?_
                                refine Seq.rd1 at3 rfl rfl (O.load kd_2 rfl (Act_e_id _)) Rd.head ?_
                                refine Seq.op at4 rfl (Op.callF rfl hb_18 (Fn.perm (C_Abort (L := ((b43, _) :: []) ++ ((b2, .cells (Entry_enc en) 27 (0, 0)) :: L)) hp5 (ti := (⟨zs[i].e.id, hwf⟩ : I64))) (bring (pre := ((b43, _) :: [])) (Ls := L5) (R := ((b2, .cells (Entry_enc en) 27 (0, 0)) :: L)))) rfl ?_)
                                rintro _ _ ⟨rfl, L6, rfl, ha6, hb6⟩
                                obtain ⟨l6, el6, hl6, ol6, hp6, hI6, hs6⟩ := holds_abort hI5 ha6 hb6
                                have hh6 : xs.length ≤ i → HeldE el6 ti en ws := fun hle => by first | (exfalso; omega) | exact (hh5 hle).same hs6 (fun e9 => (show ¬ zs[i].e.id = en.id by assumption) ((hid.trans (congrArg Subtype.val e9)).symm))
                                refine Ent.perm ?_ (bring (Ls := L6) (pre := ((b43, _) :: [])) (R := ((b2, .cells (Entry_enc en) 27 (0, 0)) :: L))).symm
                                refine Seq.nil ?_
                                refine hK34 ?_
                                refine Cd.region [0, 1, 2] rfl ?_
                                refine Seq.rd0 at0 rfl rfl (O.move (v := .int .i64 _) (by exact s29)) ?_
                                refine Seq.rd0 at1 rfl rfl (O.add rfl rfl (by omega) (by omega)) ?_
                                refine Seq.rd0 at2 rfl rfl (O.assign (v := .int .i64 _) rfl) ?_
                                refine Seq.nil ?_
                                refine Ent.drop ?_
                                exact hK30 _ (by omega) ⟨i + 1, l6, el6, hl6, ol6, L6, rfl, (by exact s24), (by exact s25), (by exact s26), (by exact s27), (by exact s28), rfl, rfl, by omega, hp6, hI6, fun hle => hh6 (by omega)⟩
                              · skip
                                refine Cd.skip ?_
                                refine hK34 ?_
                                refine Cd.region [0, 1, 2] rfl ?_
                                refine Seq.rd0 at0 rfl rfl (O.move (v := .int .i64 _) (by exact s29)) ?_
                                refine Seq.rd0 at1 rfl rfl (O.add rfl rfl (by omega) (by omega)) ?_
                                refine Seq.rd0 at2 rfl rfl (O.assign (v := .int .i64 _) rfl) ?_
                                refine Seq.nil ?_
                                refine Ent.drop ?_
                                exact hK30 _ (by omega) ⟨i + 1, l5, el5, hl5, ol5, L5, rfl, (by exact s24), (by exact s25), (by exact s26), (by exact s27), (by exact s28), rfl, rfl, by omega, hp5, hI5, fun hle => hh5 (by omega)⟩
                      · rw [decide_eq_false t50]
                        refine Seq.pass at5 rfl rfl ?_
                        refine Seq.pass at6 rfl rfl ?_
                        refine Seq.pass at7 rfl rfl ?_
                        refine Seq.pass at8 rfl rfl ?_
                        refine Seq.pass at9 rfl rfl ?_
                        refine Seq.pass at10 rfl rfl ?_
                        refine Seq.rd0 at11 rfl rfl (O.pickF (v := .bool _) rfl rfl) ?_
                        refine Seq.nil ?_
                        refine hK49 ?_
                        refine Cd.condF rfl ?_
                        refine Cd.skip ?_
                        refine hK48 ?_
                        refine Cd.seq (fun K59 hK59 => ?_)
                        refine Cd.region [0, 1] rfl ?_
                        refine Seq.rd0 at0 rfl rfl (O.field fo_38_0 rfl) ?_
                        refine Seq.rd1 at1 rfl rfl (O.load kd_3 rfl (Act_op _)) Rd.head ?_
                        refine Seq.nil ?_
                        refine hK59 ?_
                        refine Cd.block ?_
                        refine Cd.seq (fun K60 hK60 => ?_)
                        refine Cd.region [0, 1] rfl ?_
                        refine Seq.rd0 at0 rfl rfl (O.eqI rfl rfl) ?_
                        refine Seq.rd0 at1 rfl rfl (O.assign (v := .bool _) rfl) ?_
                        refine Seq.nil ?_
                        refine hK60 ?_
                        refine Cd.if (zs[i].op = 0) rfl (fun t61 => ?_) (fun t61 => ?_)
                        · skip
                          refine Cd.region [0, 1, 2, 3] rfl ?_
                          refine Seq.rd0 at0 rfl rfl (O.move (v := .pointer _) (by exact s28)) ?_
                          refine Seq.rd0 at1 rfl rfl (O.field fo_38_1 rfl) ?_
                          refine Seq.rd1 at2 rfl rfl (O.loadA kd_27 rfl (Nat.le_of_ble_eq_true rfl) (Act_e _)) Rd.head ?_
                          refine Seq.op at3 rfl (Op.callF rfl hb_16 (Fn.perm (C_Prepare (L := ((b43, _) :: []) ++ ((b2, .cells (Entry_enc en) 27 (0, 0)) :: L)) hp5 (en := zs[i].e) (ws := wsi) (hWi.cons.cons) (ti := (⟨zs[i].e.id, hwf⟩ : I64)) rfl hI5.over) (bring (pre := ((b43, _) :: [])) (Ls := L5) (R := ((b2, .cells (Entry_enc en) 27 (0, 0)) :: L)))) rfl ?_)
                          rintro _ _ ⟨rfl, L6, rfl, ha6, hb6⟩
                          obtain ⟨l6, el6, hl6, ol6, hp6, hI6, hs6, _⟩ := holds_prep hI5 ha6 hb6
                          have hh6 : xs.length ≤ i → HeldE el6 ti en ws := fun hle => by first | (exfalso; omega) | exact (hh5 hle).same hs6 (fun e9 => (show ¬ zs[i].e.id = en.id by assumption) ((hid.trans (congrArg Subtype.val e9)).symm))
                          refine Ent.perm ?_ (bring (Ls := L6) (pre := ((b43, _) :: [])) (R := ((b2, .cells (Entry_enc en) 27 (0, 0)) :: L))).symm
                          refine Seq.nil ?_
                          refine hK34 ?_
                          refine Cd.region [0, 1, 2] rfl ?_
                          refine Seq.rd0 at0 rfl rfl (O.move (v := .int .i64 _) (by exact s29)) ?_
                          refine Seq.rd0 at1 rfl rfl (O.add rfl rfl (by omega) (by omega)) ?_
                          refine Seq.rd0 at2 rfl rfl (O.assign (v := .int .i64 _) rfl) ?_
                          refine Seq.nil ?_
                          refine Ent.drop ?_
                          exact hK30 _ (by omega) ⟨i + 1, l6, el6, hl6, ol6, L6, rfl, (by exact s24), (by exact s25), (by exact s26), (by exact s27), (by exact s28), rfl, rfl, by omega, hp6, hI6, fun hle => hh6 (by omega)⟩
                        · skip
                          refine Cd.seq (fun K62 hK62 => ?_)
                          refine Cd.region [0, 1] rfl ?_
                          refine Seq.rd0 at0 rfl rfl (O.eqI rfl rfl) ?_
                          refine Seq.rd0 at1 rfl rfl (O.assign (v := .bool _) rfl) ?_
                          refine Seq.nil ?_
                          refine hK62 ?_
                          refine Cd.if (zs[i].op = 1) rfl (fun t63 => ?_) (fun t63 => ?_)
                          · skip
                            refine Cd.region [0, 1, 2, 3, 4, 5, 6] rfl ?_
                            refine Seq.rd0 at0 rfl rfl (O.move (v := .pointer _) (by exact s28)) ?_
                            refine Seq.rd0 at1 rfl rfl (O.field fo_38_1 rfl) ?_
                            refine Seq.rd0 at2 rfl rfl (O.field fo_27_0 rfl) ?_
                            refine Seq.rd1 at3 rfl rfl (O.load kd_2 rfl (Act_e_id _)) Rd.head ?_
                            refine Seq.rd0 at4 rfl rfl (O.field fo_38_2 rfl) ?_
                            refine Seq.rd1 at5 rfl rfl (O.loadA kd_24 rfl (Nat.le_of_ble_eq_true rfl) (Act_at_ _)) Rd.head ?_
                            refine Seq.op at6 rfl (Op.callF rfl hb_17 (Fn.perm (C_Commit (L := ((b43, _) :: []) ++ ((b2, .cells (Entry_enc en) 27 (0, 0)) :: L)) hp5 (ti := (⟨zs[i].e.id, hwf⟩ : I64)) (s := zs[i].at_)) (bring (pre := ((b43, _) :: [])) (Ls := L5) (R := ((b2, .cells (Entry_enc en) 27 (0, 0)) :: L)))) rfl ?_)
                            rintro _ _ ⟨rfl, l9, L6, rfl, hb6, ha6⟩
                            obtain ⟨l6, el6, hl6, ol6, hp6, hI6, hs6⟩ := holds_commit hI5 hb6 ha6
                            have hh6 : xs.length ≤ i → HeldE el6 ti en ws := fun hle => by first | (exfalso; omega) | exact (hh5 hle).same hs6 (fun e9 => (show ¬ zs[i].e.id = en.id by assumption) ((hid.trans (congrArg Subtype.val e9)).symm))
                            refine Ent.perm ?_ (bring (Ls := L6) (pre := ((b43, _) :: [])) (R := ((b2, .cells (Entry_enc en) 27 (0, 0)) :: L))).symm
                            refine Seq.nil ?_
                            refine hK34 ?_
                            refine Cd.region [0, 1, 2] rfl ?_
                            refine Seq.rd0 at0 rfl rfl (O.move (v := .int .i64 _) (by exact s29)) ?_
                            refine Seq.rd0 at1 rfl rfl (O.add rfl rfl (by omega) (by omega)) ?_
                            refine Seq.rd0 at2 rfl rfl (O.assign (v := .int .i64 _) rfl) ?_
                            refine Seq.nil ?_
                            refine Ent.drop ?_
                            exact hK30 _ (by omega) ⟨i + 1, l6, el6, hl6, ol6, L6, rfl, (by exact s24), (by exact s25), (by exact s26), (by exact s27), (by exact s28), rfl, rfl, by omega, hp6, hI6, fun hle => hh6 (by omega)⟩
                          · skip
                            refine Cd.seq (fun K64 hK64 => ?_)
                            refine Cd.region [0, 1] rfl ?_
                            refine Seq.rd0 at0 rfl rfl (O.eqI rfl rfl) ?_
                            refine Seq.rd0 at1 rfl rfl (O.assign (v := .bool _) rfl) ?_
                            refine Seq.nil ?_
                            refine hK64 ?_
                            refine Cd.if (zs[i].op = 2) rfl (fun t65 => ?_) (fun t65 => ?_)
                            · skip
                              refine Cd.region [0, 1, 2, 3, 4] rfl ?_
                              refine Seq.rd0 at0 rfl rfl (O.move (v := .pointer _) (by exact s28)) ?_
                              refine Seq.rd0 at1 rfl rfl (O.field fo_38_1 rfl) ?_
                              refine Seq.rd0 at2 rfl rfl (O.field fo_27_0 rfl) ?_
                              refine Seq.rd1 at3 rfl rfl (O.load kd_2 rfl (Act_e_id _)) Rd.head ?_
                              refine Seq.op at4 rfl (Op.callF rfl hb_18 (Fn.perm (C_Abort (L := ((b43, _) :: []) ++ ((b2, .cells (Entry_enc en) 27 (0, 0)) :: L)) hp5 (ti := (⟨zs[i].e.id, hwf⟩ : I64))) (bring (pre := ((b43, _) :: [])) (Ls := L5) (R := ((b2, .cells (Entry_enc en) 27 (0, 0)) :: L)))) rfl ?_)
                              rintro _ _ ⟨rfl, L6, rfl, ha6, hb6⟩
                              obtain ⟨l6, el6, hl6, ol6, hp6, hI6, hs6⟩ := holds_abort hI5 ha6 hb6
                              have hh6 : xs.length ≤ i → HeldE el6 ti en ws := fun hle => by first | (exfalso; omega) | exact (hh5 hle).same hs6 (fun e9 => (show ¬ zs[i].e.id = en.id by assumption) ((hid.trans (congrArg Subtype.val e9)).symm))
                              refine Ent.perm ?_ (bring (Ls := L6) (pre := ((b43, _) :: [])) (R := ((b2, .cells (Entry_enc en) 27 (0, 0)) :: L))).symm
                              refine Seq.nil ?_
                              refine hK34 ?_
                              refine Cd.region [0, 1, 2] rfl ?_
                              refine Seq.rd0 at0 rfl rfl (O.move (v := .int .i64 _) (by exact s29)) ?_
                              refine Seq.rd0 at1 rfl rfl (O.add rfl rfl (by omega) (by omega)) ?_
                              refine Seq.rd0 at2 rfl rfl (O.assign (v := .int .i64 _) rfl) ?_
                              refine Seq.nil ?_
                              refine Ent.drop ?_
                              exact hK30 _ (by omega) ⟨i + 1, l6, el6, hl6, ol6, L6, rfl, (by exact s24), (by exact s25), (by exact s26), (by exact s27), (by exact s28), rfl, rfl, by omega, hp6, hI6, fun hle => hh6 (by omega)⟩
                            · skip
                              refine Cd.skip ?_
                              refine hK34 ?_
                              refine Cd.region [0, 1, 2] rfl ?_
                              refine Seq.rd0 at0 rfl rfl (O.move (v := .int .i64 _) (by exact s29)) ?_
                              refine Seq.rd0 at1 rfl rfl (O.add rfl rfl (by omega) (by omega)) ?_
                              refine Seq.rd0 at2 rfl rfl (O.assign (v := .int .i64 _) rfl) ?_
                              refine Seq.nil ?_
                              refine Ent.drop ?_
                              exact hK30 _ (by omega) ⟨i + 1, l5, el5, hl5, ol5, L5, rfl, (by exact s24), (by exact s25), (by exact s26), (by exact s27), (by exact s28), rfl, rfl, by omega, hp5, hI5, fun hle => hh5 (by omega)⟩
                · rw [decide_eq_false t37]
                  refine Seq.pass at5 rfl rfl ?_
                  refine Seq.pass at6 rfl rfl ?_
                  refine Seq.pass at7 rfl rfl ?_
                  refine Seq.pass at8 rfl rfl ?_
                  refine Seq.rd0 at9 rfl rfl (O.pickF (v := .bool _) rfl rfl) ?_
                  refine Seq.nil ?_
                  refine hK36 ?_
                  refine Cd.condF rfl ?_
                  refine Cd.skip ?_
                  refine hK35 ?_
                  refine Cd.seq (fun K66 hK66 => ?_)
                  refine Cd.region [0, 1, 2, 3, 4, 5, 6, 7, 8, 9] rfl ?_
                  obtain ⟨l5, el5, hl5, ol5, L5, hL5, hp5, hI5, hh5⟩ : ∃ l5 el5 hl5 ol5 L5, L5 = L1 ∧ PtOwn pb l5 el5 hl5 ol5 L5 ∧ Inv l5 el5 hl5 ol5 ∧ (xs.length ≤ i → HeldE el5 ti en ws) := by
                    refine ⟨_, _, _, _, _, rfl, hp1, hI1, ?_⟩
                    first | exact fun hle => hh1 (by omega) | exact hh1 (by omega)
                  rw [← hL5]
                  refine Seq.op at0 rfl (Op.new rfl (O.buildSlice (el := 38) rfl (cs := (rows Act_enc [])) (by kernel_rfl)) ?_)
                  intro b67 hb67
                  refine Seq.rd0 at1 rfl rfl (O.move (v := .slice _ _ _) (by exact s24)) ?_
                  refine Seq.op at2 rfl (Op.gen rfl (O.appendOwnZ (k := nx) (new := rows Act_enc xs) (m := 0) (old := rows Act_enc []) (Ls := [(b67, _)]) (R := (L5 ++ ((b2, .cells (Entry_enc en) 27 (0, 0)) :: L))) ei_22 ds_22 (by decide) rfl (.inr ⟨b67, 0, #[], rfl, Nat.le_refl _, rfl, rfl, rfl⟩) ((hX.cons.app.cons).src Act_size) (rows_ones Act_one) (by omega)) ?_)
                  rintro _ _ ⟨La, hoa, rfl⟩
                  obtain ⟨a7, c7, rfl⟩ := hoa.form
                  refine Seq.rd0 at3 rfl rfl (O.move (v := .slice _ _ _) (by exact s25)) ?_
                  refine Seq.op at4 rfl (Op.gen rfl (O.appendOwnZ (k := ny) (new := rows Act_enc ys) (m := 0 + nx) (old := rows Act_enc [] ++ rows Act_enc xs) (Ls := La) (R := (L5 ++ ((b2, .cells (Entry_enc en) 27 (0, 0)) :: L))) ei_22 ds_22 (by decide) rfl hoa ((hY.cons.app.app).src Act_size) (rows_ones Act_one) (by omega)) ?_)
                  rintro _ _ ⟨Lb, hob, rfl⟩
                  obtain ⟨a8, c8, rfl⟩ := hob.form
                  rw [← rows_append, ← rows_append, List.nil_append, ← hzs] at hob
                  have hZ := OwnSl.at_ (c := c) (R := (L5 ++ ((b2, .cells (Entry_enc en) 27 (0, 0)) :: L))) hob (by rw [hzs, List.length_append]; omega) (by omega)
                  refine Seq.rd0 at5 rfl rfl (O.move (v := .int .i64 _) (by exact s29)) ?_
                  have hzl : zs.length = xs.length + ys.length := by rw [hzs, List.length_append]
                  have hlt68 : i < zs.length := by omega
                  obtain ⟨pre68, sp68, el68, fz68, hav68, hrd68⟩ := hZ.at_ hlt68
                  obtain ⟨hwf, wsi, hWi⟩ := hQ3 _ (List.getElem_mem hlt68)
                  refine Seq.rd0 at6 rfl rfl (O.indexG sl_22 rfl hav68 rfl (by omega) (by omega)) ?_
                  refine Seq.rd1 at7 rfl rfl (O.loadA kd_38 rfl (rowRoomP Act_size (getN hlt68)) (rowAtP Act_size (getN hlt68))) hrd68 ?_
                  refine Seq.op at8 rfl (Op.new rfl (O.alloc zo_38 (cs := (Act_enc Act.zero)) rfl) ?_)
                  intro b69 hb69
                  refine Seq.op at9 rfl (Op.set0 rfl (O.store kd_38 rfl (v := .agg _) rfl (Act_size _) (Act_room (Act_size _)) (Act_one _) (Act_put _ (Act_size _))) ?_)
                  refine Ent.sub ?_ (.cons_cons _ (sub_app (.refl _)))
                  refine Seq.nil ?_
                  refine hK66 ?_
                  refine Cd.seq (fun K70 hK70 => ?_)
                  refine Cd.seq (fun K71 hK71 => ?_)
                  refine Cd.region [0, 1, 2, 3] rfl ?_
                  refine Seq.rd0 at0 rfl rfl (O.field fo_38_1 rfl) ?_
                  refine Seq.rd0 at1 rfl rfl (O.field fo_27_3 rfl) ?_
                  refine Seq.rd1 at2 rfl rfl (O.load kd_25 rfl (Act_e_ws _)) Rd.head ?_
                  refine Seq.op at3 rfl (Op.callF rfl hb_14 (C_long (hWi.cons.app.cons)) rfl ?_)
                  rintro _ _ ⟨rfl, rfl⟩
                  refine Seq.nil ?_
                  refine hK71 ?_
                  refine Cd.cond ((longP wsi)) rfl (fun t72 => ?_) (fun t72 => ?_)
                  · skip
                    refine Cd.seq (fun K73 hK73 => ?_)
                    refine Cd.region [0] rfl ?_
                    refine Seq.rd0 at0 rfl rfl (O.assign (v := .bool _) rfl) ?_
                    refine Seq.nil ?_
                    refine hK73 ?_
                    refine Cd.ret ?_
                    exact hR _ L (Res.one (v := .bool _) rfl rfl) ⟨rfl, rfl⟩ (.cons _ (sub_app (G := L5) (.cons _ (.refl _))))
                  · skip
                    refine Cd.skip ?_
                    refine hK70 ?_
                    refine Cd.seq (fun K74 hK74 => ?_)
                    refine Cd.seq (fun K75 hK75 => ?_)
                    refine Cd.region [0, 1, 2, 3, 4, 5, 6, 7, 8, 9, 10, 11] rfl ?_
                    refine Seq.rd0 at0 rfl rfl (O.move (v := .int .i64 _) (by exact s29)) ?_
                    refine Seq.rd0 at1 rfl rfl (O.move (v := .slice _ _ _) (by exact s24)) ?_
                    refine Seq.rd0 at2 rfl rfl (O.lenS ds_22 rfl) ?_
                    refine Seq.rd0 at3 rfl rfl (O.geq rfl rfl) ?_
                    refine Seq.rd0 at4 rfl rfl (O.move (v := .bool _) rfl) ?_
                    by_cases t76 : (nx : Int) ≤ (i : Int)
                    · rw [decide_eq_true t76]
                      refine Seq.rd0 at5 rfl rfl (O.field fo_38_1 rfl) ?_
                      refine Seq.rd0 at6 rfl rfl (O.field fo_27_0 rfl) ?_
                      refine Seq.rd1 at7 rfl rfl (O.load kd_2 rfl (Act_e_id _)) Rd.head ?_
                      refine Seq.rd0 at8 rfl rfl (O.field fo_27_0 (by exact s27)) ?_
                      refine Seq.rd1 at9 rfl rfl (O.load kd_2 rfl (Entry_id _)) Rd.head.app.cons ?_
                      refine Seq.rd0 at10 rfl rfl (O.eqI rfl rfl) ?_
                      refine Seq.rd0 at11 rfl rfl (O.pickT (v := .bool _) rfl rfl) ?_
                      refine Seq.nil ?_
                      refine hK75 ?_
                      refine Cd.if (zs[i].e.id = en.id) rfl (fun t77 => ?_) (fun t77 => ?_)
                      · skip
                        refine Cd.exit ?_
                        refine hK34 ?_
                        refine Cd.region [0, 1, 2] rfl ?_
                        refine Seq.rd0 at0 rfl rfl (O.move (v := .int .i64 _) (by exact s29)) ?_
                        refine Seq.rd0 at1 rfl rfl (O.add rfl rfl (by omega) (by omega)) ?_
                        refine Seq.rd0 at2 rfl rfl (O.assign (v := .int .i64 _) rfl) ?_
                        refine Seq.nil ?_
                        refine Ent.drop ?_
                        exact hK30 _ (by omega) ⟨i + 1, l5, el5, hl5, ol5, L5, rfl, (by exact s24), (by exact s25), (by exact s26), (by exact s27), (by exact s28), rfl, rfl, by omega, hp5, hI5, fun hle => hh5 (by omega)⟩
                      · skip
                        refine Cd.skip ?_
                        refine hK74 ?_
                        refine Cd.seq (fun K78 hK78 => ?_)
                        refine Cd.region [0, 1] rfl ?_
                        refine Seq.rd0 at0 rfl rfl (O.field fo_38_0 rfl) ?_
                        refine Seq.rd1 at1 rfl rfl (O.load kd_3 rfl (Act_op _)) Rd.head ?_
                        refine Seq.nil ?_
                        refine hK78 ?_
                        refine Cd.block ?_
                        refine Cd.seq (fun K79 hK79 => ?_)
                        refine Cd.region [0, 1] rfl ?_
                        refine Seq.rd0 at0 rfl rfl (O.eqI rfl rfl) ?_
                        refine Seq.rd0 at1 rfl rfl (O.assign (v := .bool _) rfl) ?_
                        refine Seq.nil ?_
                        refine hK79 ?_
                        refine Cd.if (zs[i].op = 0) rfl (fun t80 => ?_) (fun t80 => ?_)
                        · skip
                          refine Cd.region [0, 1, 2, 3] rfl ?_
                          refine Seq.rd0 at0 rfl rfl (O.move (v := .pointer _) (by exact s28)) ?_
                          refine Seq.rd0 at1 rfl rfl (O.field fo_38_1 rfl) ?_
                          refine Seq.rd1 at2 rfl rfl (O.loadA kd_27 rfl (Nat.le_of_ble_eq_true rfl) (Act_e _)) Rd.head ?_
                          refine Seq.op at3 rfl (Op.callF rfl hb_16 (Fn.perm (C_Prepare (L := ((b69, _) :: []) ++ ((b2, .cells (Entry_enc en) 27 (0, 0)) :: L)) hp5 (en := zs[i].e) (ws := wsi) (hWi.cons.cons) (ti := (⟨zs[i].e.id, hwf⟩ : I64)) rfl hI5.over) (bring (pre := ((b69, _) :: [])) (Ls := L5) (R := ((b2, .cells (Entry_enc en) 27 (0, 0)) :: L)))) rfl ?_)
                          rintro _ _ ⟨rfl, L6, rfl, ha6, hb6⟩
                          obtain ⟨l6, el6, hl6, ol6, hp6, hI6, hs6, _⟩ := holds_prep hI5 ha6 hb6
                          have hh6 : xs.length ≤ i → HeldE el6 ti en ws := fun hle => by first | (exfalso; omega) | exact (hh5 hle).same hs6 (fun e9 => (show ¬ zs[i].e.id = en.id by assumption) ((hid.trans (congrArg Subtype.val e9)).symm))
                          refine Ent.perm ?_ (bring (Ls := L6) (pre := ((b69, _) :: [])) (R := ((b2, .cells (Entry_enc en) 27 (0, 0)) :: L))).symm
                          refine Seq.nil ?_
                          refine hK34 ?_
                          refine Cd.region [0, 1, 2] rfl ?_
                          refine Seq.rd0 at0 rfl rfl (O.move (v := .int .i64 _) (by exact s29)) ?_
                          refine Seq.rd0 at1 rfl rfl (O.add rfl rfl (by omega) (by omega)) ?_
                          refine Seq.rd0 at2 rfl rfl (O.assign (v := .int .i64 _) rfl) ?_
                          refine Seq.nil ?_
                          refine Ent.drop ?_
                          exact hK30 _ (by omega) ⟨i + 1, l6, el6, hl6, ol6, L6, rfl, (by exact s24), (by exact s25), (by exact s26), (by exact s27), (by exact s28), rfl, rfl, by omega, hp6, hI6, fun hle => hh6 (by omega)⟩
                        · skip
                          refine Cd.seq (fun K81 hK81 => ?_)
                          refine Cd.region [0, 1] rfl ?_
                          refine Seq.rd0 at0 rfl rfl (O.eqI rfl rfl) ?_
                          refine Seq.rd0 at1 rfl rfl (O.assign (v := .bool _) rfl) ?_
                          refine Seq.nil ?_
                          refine hK81 ?_
                          refine Cd.if (zs[i].op = 1) rfl (fun t82 => ?_) (fun t82 => ?_)
                          · skip
                            refine Cd.region [0, 1, 2, 3, 4, 5, 6] rfl ?_
                            refine Seq.rd0 at0 rfl rfl (O.move (v := .pointer _) (by exact s28)) ?_
                            refine Seq.rd0 at1 rfl rfl (O.field fo_38_1 rfl) ?_
                            refine Seq.rd0 at2 rfl rfl (O.field fo_27_0 rfl) ?_
                            refine Seq.rd1 at3 rfl rfl (O.load kd_2 rfl (Act_e_id _)) Rd.head ?_
                            refine Seq.rd0 at4 rfl rfl (O.field fo_38_2 rfl) ?_
                            refine Seq.rd1 at5 rfl rfl (O.loadA kd_24 rfl (Nat.le_of_ble_eq_true rfl) (Act_at_ _)) Rd.head ?_
                            refine Seq.op at6 rfl (Op.callF rfl hb_17 (Fn.perm (C_Commit (L := ((b69, _) :: []) ++ ((b2, .cells (Entry_enc en) 27 (0, 0)) :: L)) hp5 (ti := (⟨zs[i].e.id, hwf⟩ : I64)) (s := zs[i].at_)) (bring (pre := ((b69, _) :: [])) (Ls := L5) (R := ((b2, .cells (Entry_enc en) 27 (0, 0)) :: L)))) rfl ?_)
                            rintro _ _ ⟨rfl, l9, L6, rfl, hb6, ha6⟩
                            obtain ⟨l6, el6, hl6, ol6, hp6, hI6, hs6⟩ := holds_commit hI5 hb6 ha6
                            have hh6 : xs.length ≤ i → HeldE el6 ti en ws := fun hle => by first | (exfalso; omega) | exact (hh5 hle).same hs6 (fun e9 => (show ¬ zs[i].e.id = en.id by assumption) ((hid.trans (congrArg Subtype.val e9)).symm))
                            refine Ent.perm ?_ (bring (Ls := L6) (pre := ((b69, _) :: [])) (R := ((b2, .cells (Entry_enc en) 27 (0, 0)) :: L))).symm
                            refine Seq.nil ?_
                            refine hK34 ?_
                            refine Cd.region [0, 1, 2] rfl ?_
                            refine Seq.rd0 at0 rfl rfl (O.move (v := .int .i64 _) (by exact s29)) ?_
                            refine Seq.rd0 at1 rfl rfl (O.add rfl rfl (by omega) (by omega)) ?_
                            refine Seq.rd0 at2 rfl rfl (O.assign (v := .int .i64 _) rfl) ?_
                            refine Seq.nil ?_
                            refine Ent.drop ?_
                            exact hK30 _ (by omega) ⟨i + 1, l6, el6, hl6, ol6, L6, rfl, (by exact s24), (by exact s25), (by exact s26), (by exact s27), (by exact s28), rfl, rfl, by omega, hp6, hI6, fun hle => hh6 (by omega)⟩
                          · skip
                            refine Cd.seq (fun K83 hK83 => ?_)
                            refine Cd.region [0, 1] rfl ?_
                            refine Seq.rd0 at0 rfl rfl (O.eqI rfl rfl) ?_
                            refine Seq.rd0 at1 rfl rfl (O.assign (v := .bool _) rfl) ?_
                            refine Seq.nil ?_
                            refine hK83 ?_
                            refine Cd.if (zs[i].op = 2) rfl (fun t84 => ?_) (fun t84 => ?_)
                            · skip
                              refine Cd.region [0, 1, 2, 3, 4] rfl ?_
                              refine Seq.rd0 at0 rfl rfl (O.move (v := .pointer _) (by exact s28)) ?_
                              refine Seq.rd0 at1 rfl rfl (O.field fo_38_1 rfl) ?_
                              refine Seq.rd0 at2 rfl rfl (O.field fo_27_0 rfl) ?_
                              refine Seq.rd1 at3 rfl rfl (O.load kd_2 rfl (Act_e_id _)) Rd.head ?_
                              refine Seq.op at4 rfl (Op.callF rfl hb_18 (Fn.perm (C_Abort (L := ((b69, _) :: []) ++ ((b2, .cells (Entry_enc en) 27 (0, 0)) :: L)) hp5 (ti := (⟨zs[i].e.id, hwf⟩ : I64))) (bring (pre := ((b69, _) :: [])) (Ls := L5) (R := ((b2, .cells (Entry_enc en) 27 (0, 0)) :: L)))) rfl ?_)
                              rintro _ _ ⟨rfl, L6, rfl, ha6, hb6⟩
                              obtain ⟨l6, el6, hl6, ol6, hp6, hI6, hs6⟩ := holds_abort hI5 ha6 hb6
                              have hh6 : xs.length ≤ i → HeldE el6 ti en ws := fun hle => by first | (exfalso; omega) | exact (hh5 hle).same hs6 (fun e9 => (show ¬ zs[i].e.id = en.id by assumption) ((hid.trans (congrArg Subtype.val e9)).symm))
                              refine Ent.perm ?_ (bring (Ls := L6) (pre := ((b69, _) :: [])) (R := ((b2, .cells (Entry_enc en) 27 (0, 0)) :: L))).symm
                              refine Seq.nil ?_
                              refine hK34 ?_
                              refine Cd.region [0, 1, 2] rfl ?_
                              refine Seq.rd0 at0 rfl rfl (O.move (v := .int .i64 _) (by exact s29)) ?_
                              refine Seq.rd0 at1 rfl rfl (O.add rfl rfl (by omega) (by omega)) ?_
                              refine Seq.rd0 at2 rfl rfl (O.assign (v := .int .i64 _) rfl) ?_
                              refine Seq.nil ?_
                              refine Ent.drop ?_
                              exact hK30 _ (by omega) ⟨i + 1, l6, el6, hl6, ol6, L6, rfl, (by exact s24), (by exact s25), (by exact s26), (by exact s27), (by exact s28), rfl, rfl, by omega, hp6, hI6, fun hle => hh6 (by omega)⟩
                            · skip
                              refine Cd.skip ?_
                              refine hK34 ?_
                              refine Cd.region [0, 1, 2] rfl ?_
                              refine Seq.rd0 at0 rfl rfl (O.move (v := .int .i64 _) (by exact s29)) ?_
                              refine Seq.rd0 at1 rfl rfl (O.add rfl rfl (by omega) (by omega)) ?_
                              refine Seq.rd0 at2 rfl rfl (O.assign (v := .int .i64 _) rfl) ?_
                              refine Seq.nil ?_
                              refine Ent.drop ?_
                              exact hK30 _ (by omega) ⟨i + 1, l5, el5, hl5, ol5, L5, rfl, (by exact s24), (by exact s25), (by exact s26), (by exact s27), (by exact s28), rfl, rfl, by omega, hp5, hI5, fun hle => hh5 (by omega)⟩
                    · rw [decide_eq_false t76]
                      refine Seq.pass at5 rfl rfl ?_
                      refine Seq.pass at6 rfl rfl ?_
                      refine Seq.pass at7 rfl rfl ?_
                      refine Seq.pass at8 rfl rfl ?_
                      refine Seq.pass at9 rfl rfl ?_
                      refine Seq.pass at10 rfl rfl ?_
                      refine Seq.rd0 at11 rfl rfl (O.pickF (v := .bool _) rfl rfl) ?_
                      refine Seq.nil ?_
                      refine hK75 ?_
                      refine Cd.condF rfl ?_
                      refine Cd.skip ?_
                      refine hK74 ?_
                      refine Cd.seq (fun K85 hK85 => ?_)
                      refine Cd.region [0, 1] rfl ?_
                      refine Seq.rd0 at0 rfl rfl (O.field fo_38_0 rfl) ?_
                      refine Seq.rd1 at1 rfl rfl (O.load kd_3 rfl (Act_op _)) Rd.head ?_
                      refine Seq.nil ?_
                      refine hK85 ?_
                      refine Cd.block ?_
                      refine Cd.seq (fun K86 hK86 => ?_)
                      refine Cd.region [0, 1] rfl ?_
                      refine Seq.rd0 at0 rfl rfl (O.eqI rfl rfl) ?_
                      refine Seq.rd0 at1 rfl rfl (O.assign (v := .bool _) rfl) ?_
                      refine Seq.nil ?_
                      refine hK86 ?_
                      refine Cd.if (zs[i].op = 0) rfl (fun t87 => ?_) (fun t87 => ?_)
                      · skip
                        refine Cd.region [0, 1, 2, 3] rfl ?_
                        refine Seq.rd0 at0 rfl rfl (O.move (v := .pointer _) (by exact s28)) ?_
                        refine Seq.rd0 at1 rfl rfl (O.field fo_38_1 rfl) ?_
                        refine Seq.rd1 at2 rfl rfl (O.loadA kd_27 rfl (Nat.le_of_ble_eq_true rfl) (Act_e _)) Rd.head ?_
                        refine Seq.op at3 rfl (Op.callF rfl hb_16 (Fn.perm (C_Prepare (L := ((b69, _) :: []) ++ ((b2, .cells (Entry_enc en) 27 (0, 0)) :: L)) hp5 (en := zs[i].e) (ws := wsi) (hWi.cons.cons) (ti := (⟨zs[i].e.id, hwf⟩ : I64)) rfl hI5.over) (bring (pre := ((b69, _) :: [])) (Ls := L5) (R := ((b2, .cells (Entry_enc en) 27 (0, 0)) :: L)))) rfl ?_)
                        rintro _ _ ⟨rfl, L6, rfl, ha6, hb6⟩
                        obtain ⟨l6, el6, hl6, ol6, hp6, hI6, hs6, _⟩ := holds_prep hI5 ha6 hb6
                        have hh6 : xs.length ≤ i → HeldE el6 ti en ws := fun hle => by first | (exfalso; omega) | exact (hh5 hle).same hs6 (fun e9 => (show ¬ zs[i].e.id = en.id by assumption) ((hid.trans (congrArg Subtype.val e9)).symm))
                        refine Ent.perm ?_ (bring (Ls := L6) (pre := ((b69, _) :: [])) (R := ((b2, .cells (Entry_enc en) 27 (0, 0)) :: L))).symm
                        refine Seq.nil ?_
                        refine hK34 ?_
                        refine Cd.region [0, 1, 2] rfl ?_
                        refine Seq.rd0 at0 rfl rfl (O.move (v := .int .i64 _) (by exact s29)) ?_
                        refine Seq.rd0 at1 rfl rfl (O.add rfl rfl (by omega) (by omega)) ?_
                        refine Seq.rd0 at2 rfl rfl (O.assign (v := .int .i64 _) rfl) ?_
                        refine Seq.nil ?_
                        refine Ent.drop ?_
                        exact hK30 _ (by omega) ⟨i + 1, l6, el6, hl6, ol6, L6, rfl, (by exact s24), (by exact s25), (by exact s26), (by exact s27), (by exact s28), rfl, rfl, by omega, hp6, hI6, fun hle => hh6 (by omega)⟩
                      · skip
                        refine Cd.seq (fun K88 hK88 => ?_)
                        refine Cd.region [0, 1] rfl ?_
                        refine Seq.rd0 at0 rfl rfl (O.eqI rfl rfl) ?_
                        refine Seq.rd0 at1 rfl rfl (O.assign (v := .bool _) rfl) ?_
                        refine Seq.nil ?_
                        refine hK88 ?_
                        refine Cd.if (zs[i].op = 1) rfl (fun t89 => ?_) (fun t89 => ?_)
                        · skip
                          refine Cd.region [0, 1, 2, 3, 4, 5, 6] rfl ?_
                          refine Seq.rd0 at0 rfl rfl (O.move (v := .pointer _) (by exact s28)) ?_
                          refine Seq.rd0 at1 rfl rfl (O.field fo_38_1 rfl) ?_
                          refine Seq.rd0 at2 rfl rfl (O.field fo_27_0 rfl) ?_
                          refine Seq.rd1 at3 rfl rfl (O.load kd_2 rfl (Act_e_id _)) Rd.head ?_
                          refine Seq.rd0 at4 rfl rfl (O.field fo_38_2 rfl) ?_
                          refine Seq.rd1 at5 rfl rfl (O.loadA kd_24 rfl (Nat.le_of_ble_eq_true rfl) (Act_at_ _)) Rd.head ?_
                          refine Seq.op at6 rfl (Op.callF rfl hb_17 (Fn.perm (C_Commit (L := ((b69, _) :: []) ++ ((b2, .cells (Entry_enc en) 27 (0, 0)) :: L)) hp5 (ti := (⟨zs[i].e.id, hwf⟩ : I64)) (s := zs[i].at_)) (bring (pre := ((b69, _) :: [])) (Ls := L5) (R := ((b2, .cells (Entry_enc en) 27 (0, 0)) :: L)))) rfl ?_)
                          rintro _ _ ⟨rfl, l9, L6, rfl, hb6, ha6⟩
                          obtain ⟨l6, el6, hl6, ol6, hp6, hI6, hs6⟩ := holds_commit hI5 hb6 ha6
                          have hh6 : xs.length ≤ i → HeldE el6 ti en ws := fun hle => by first | (exfalso; omega) | exact (hh5 hle).same hs6 (fun e9 => (show ¬ zs[i].e.id = en.id by assumption) ((hid.trans (congrArg Subtype.val e9)).symm))
                          refine Ent.perm ?_ (bring (Ls := L6) (pre := ((b69, _) :: [])) (R := ((b2, .cells (Entry_enc en) 27 (0, 0)) :: L))).symm
                          refine Seq.nil ?_
                          refine hK34 ?_
                          refine Cd.region [0, 1, 2] rfl ?_
                          refine Seq.rd0 at0 rfl rfl (O.move (v := .int .i64 _) (by exact s29)) ?_
                          refine Seq.rd0 at1 rfl rfl (O.add rfl rfl (by omega) (by omega)) ?_
                          refine Seq.rd0 at2 rfl rfl (O.assign (v := .int .i64 _) rfl) ?_
                          refine Seq.nil ?_
                          refine Ent.drop ?_
                          exact hK30 _ (by omega) ⟨i + 1, l6, el6, hl6, ol6, L6, rfl, (by exact s24), (by exact s25), (by exact s26), (by exact s27), (by exact s28), rfl, rfl, by omega, hp6, hI6, fun hle => hh6 (by omega)⟩
                        · skip
                          refine Cd.seq (fun K90 hK90 => ?_)
                          refine Cd.region [0, 1] rfl ?_
                          refine Seq.rd0 at0 rfl rfl (O.eqI rfl rfl) ?_
                          refine Seq.rd0 at1 rfl rfl (O.assign (v := .bool _) rfl) ?_
                          refine Seq.nil ?_
                          refine hK90 ?_
                          refine Cd.if (zs[i].op = 2) rfl (fun t91 => ?_) (fun t91 => ?_)
                          · skip
                            refine Cd.region [0, 1, 2, 3, 4] rfl ?_
                            refine Seq.rd0 at0 rfl rfl (O.move (v := .pointer _) (by exact s28)) ?_
                            refine Seq.rd0 at1 rfl rfl (O.field fo_38_1 rfl) ?_
                            refine Seq.rd0 at2 rfl rfl (O.field fo_27_0 rfl) ?_
                            refine Seq.rd1 at3 rfl rfl (O.load kd_2 rfl (Act_e_id _)) Rd.head ?_
                            refine Seq.op at4 rfl (Op.callF rfl hb_18 (Fn.perm (C_Abort (L := ((b69, _) :: []) ++ ((b2, .cells (Entry_enc en) 27 (0, 0)) :: L)) hp5 (ti := (⟨zs[i].e.id, hwf⟩ : I64))) (bring (pre := ((b69, _) :: [])) (Ls := L5) (R := ((b2, .cells (Entry_enc en) 27 (0, 0)) :: L)))) rfl ?_)
                            rintro _ _ ⟨rfl, L6, rfl, ha6, hb6⟩
                            obtain ⟨l6, el6, hl6, ol6, hp6, hI6, hs6⟩ := holds_abort hI5 ha6 hb6
                            have hh6 : xs.length ≤ i → HeldE el6 ti en ws := fun hle => by first | (exfalso; omega) | exact (hh5 hle).same hs6 (fun e9 => (show ¬ zs[i].e.id = en.id by assumption) ((hid.trans (congrArg Subtype.val e9)).symm))
                            refine Ent.perm ?_ (bring (Ls := L6) (pre := ((b69, _) :: [])) (R := ((b2, .cells (Entry_enc en) 27 (0, 0)) :: L))).symm
                            refine Seq.nil ?_
                            refine hK34 ?_
                            refine Cd.region [0, 1, 2] rfl ?_
                            refine Seq.rd0 at0 rfl rfl (O.move (v := .int .i64 _) (by exact s29)) ?_
                            refine Seq.rd0 at1 rfl rfl (O.add rfl rfl (by omega) (by omega)) ?_
                            refine Seq.rd0 at2 rfl rfl (O.assign (v := .int .i64 _) rfl) ?_
                            refine Seq.nil ?_
                            refine Ent.drop ?_
                            exact hK30 _ (by omega) ⟨i + 1, l6, el6, hl6, ol6, L6, rfl, (by exact s24), (by exact s25), (by exact s26), (by exact s27), (by exact s28), rfl, rfl, by omega, hp6, hI6, fun hle => hh6 (by omega)⟩
                          · skip
                            refine Cd.skip ?_
                            refine hK34 ?_
                            refine Cd.region [0, 1, 2] rfl ?_
                            refine Seq.rd0 at0 rfl rfl (O.move (v := .int .i64 _) (by exact s29)) ?_
                            refine Seq.rd0 at1 rfl rfl (O.add rfl rfl (by omega) (by omega)) ?_
                            refine Seq.rd0 at2 rfl rfl (O.assign (v := .int .i64 _) rfl) ?_
                            refine Seq.nil ?_
                            refine Ent.drop ?_
                            exact hK30 _ (by omega) ⟨i + 1, l5, el5, hl5, ol5, L5, rfl, (by exact s24), (by exact s25), (by exact s26), (by exact s27), (by exact s28), rfl, rfl, by omega, hp5, hI5, fun hle => hh5 (by omega)⟩
              · skip
                refine Cd.exit ?_
                refine hK19 ?_
                refine Cd.seq (fun K92 hK92 => ?_)
                refine Cd.seq (fun K93 hK93 => ?_)
                refine Cd.region [0, 1, 2, 3, 4, 5, 6, 7, 8] rfl ?_
                refine Seq.rd0 at0 rfl rfl (O.move (v := .slice _ _ _) (by exact s25)) ?_
                refine Seq.rd0 at1 rfl rfl (O.lenS ds_22 rfl) ?_
                refine Seq.rd0 at2 rfl rfl (O.eqI rfl rfl) ?_
                refine Seq.rd0 at3 rfl rfl (O.move (v := .bool _) rfl) ?_
                by_cases t94 : (ny : Int) = 0
                · rw [decide_eq_true t94]
                  refine Seq.rd0 at4 rfl rfl (O.move (v := .pointer _) (by exact s28)) ?_
                  refine Seq.rd1 at5 rfl rfl (O.loadA kd_27 (by exact s27) (Nat.le_of_ble_eq_true rfl) (Entry_all _)) Rd.head.app ?_
                  refine Seq.op at6 rfl (Op.callF rfl hb_16 (Fn.perm (C_Prepare (L := ([]) ++ ((b2, .cells (Entry_enc en) 27 (0, 0)) :: L)) hp1 (en := en) (ws := ws) (hE.cons) (ti := ti) hid hI1.over) (bring (pre := ([])) (Ls := L1) (R := ((b2, .cells (Entry_enc en) 27 (0, 0)) :: L)))) rfl ?_)
                  rintro _ _ ⟨rfl, L2, rfl, ha2, hb2⟩
                  obtain ⟨l2, el2, hl2, ol2, hp2, hI2, hs2, hpr2⟩ := holds_prep hI1 ha2 hb2
                  refine Ent.perm ?_ (bring (Ls := L2) (pre := ([])) (R := ((b2, .cells (Entry_enc en) 27 (0, 0)) :: L))).symm
                  refine Seq.rd0 at7 rfl rfl (O.neI rfl rfl) ?_
                  refine Seq.rd0 at8 rfl rfl (O.pickT (v := .bool _) rfl rfl) ?_
                  refine Seq.nil ?_
                  refine hK93 ?_
                  refine Cd.ifn ((prepP l1 el1 hl1 ol1 ti en ws) = 0) rfl (fun t95 => ?_) (fun t95 => ?_)
                  · skip
                    refine Cd.seq (fun K96 hK96 => ?_)
                    refine Cd.region [0] rfl ?_
                    refine Seq.rd0 at0 rfl rfl (O.assign (v := .bool _) rfl) ?_
                    refine Seq.nil ?_
                    refine hK96 ?_
                    refine Cd.ret ?_
                    exact hR _ L (Res.one (v := .bool _) rfl rfl) ⟨rfl, rfl⟩ (sub_app (G := L2) (.cons _ (.refl _)))
                  · skip
                    refine Cd.skip ?_
                    refine hK92 ?_
                    refine Cd.seq (fun K97 hK97 => ?_)
                    refine Cd.region [0, 1, 2, 3, 4, 5, 6, 7, 8, 9, 10] rfl ?_
                    refine Seq.rd0 at0 rfl rfl (O.field fo_27_2 (by exact s27)) ?_
                    refine Seq.rd0 at1 rfl rfl (O.field fo_24_0 rfl) ?_
                    refine Seq.rd1 at2 rfl rfl (O.load kd_2 rfl (Entry_stamp_t _)) Rd.head.app ?_
                    refine Seq.rd0 at3 rfl rfl (O.move (v := .int .i64 _) (by exact s26)) ?_
                    obtain ⟨l10, el10, hl10, ol10, L10, hL10, hp10, hI10, hh10⟩ : ∃ l10 el10 hl10 ol10 L10, L10 = L2 ∧ PtOwn pb l10 el10 hl10 ol10 L10 ∧ Inv l10 el10 hl10 ol10 ∧ (HeldE el10 ti en ws) := by
                      refine ⟨_, _, _, _, _, rfl, hp2, hI2, ?_⟩
                      first | exact fun _ => hpr2 (by assumption) | exact hpr2 (by assumption)
                    rw [← hL10]
                    have hst0 := goodE_stamp (hh10.good hI10)
                    have hug := up_good (u := u) hst0 (by assumption) (by assumption) (by assumption)
                    refine Seq.rd0 at4 rfl rfl (O.add rfl rfl (by omega) (by omega)) ?_
                    refine Seq.rd0 at5 rfl rfl (O.field fo_27_2 (by exact s27)) ?_
                    refine Seq.rd0 at6 rfl rfl (O.field fo_24_1 rfl) ?_
                    refine Seq.rd1 at7 rfl rfl (O.load kd_5 rfl (Entry_stamp_n _)) Rd.head.app ?_
                    refine Seq.rd0 at8 rfl rfl (O.build rfl (cs := (Stamp_enc (⟨(en.stamp.t + u), en.stamp.n⟩ : Stamp))) (by kernel_rfl)) ?_
                    refine Seq.op at9 rfl (Op.new rfl (O.alloc zo_24 (cs := (Stamp_enc Stamp.zero)) rfl) ?_)
                    intro b98 hb98
                    refine Seq.op at10 rfl (Op.set0 rfl (O.store kd_24 rfl (v := .agg _) rfl (Stamp_size _) (Stamp_room (Stamp_size _)) (Stamp_one _) (Stamp_put _ (Stamp_size _))) ?_)
                    refine Seq.nil ?_
                    refine hK97 ?_
                    refine Cd.seq (fun K99 hK99 => ?_)
                    refine Cd.seq (fun K100 hK100 => ?_)
                    refine Cd.region [0, 1, 2, 3, 4, 5, 6, 7, 8, 9, 10, 11, 12] rfl ?_
                    refine Seq.rd0 at0 rfl rfl (O.move (v := .pointer _) (by exact s28)) ?_
                    refine Seq.rd0 at1 rfl rfl (O.field fo_27_0 (by exact s27)) ?_
                    refine Seq.rd1 at2 rfl rfl (O.load kd_2 rfl (Entry_id _)) Rd.head.app.cons ?_
                    obtain ⟨l11, el11, hl11, ol11, L11, hL11, hp11, hI11, hh11⟩ : ∃ l11 el11 hl11 ol11 L11, L11 = L10 ∧ PtOwn pb l11 el11 hl11 ol11 L11 ∧ Inv l11 el11 hl11 ol11 ∧ (HeldE el11 ti en ws) := by
                      refine ⟨_, _, _, _, _, rfl, hp10, hI10, ?_⟩
                      exact hh10
                    rw [← hL11]
                    refine Seq.op at3 rfl (Op.callF rfl hb_19 (C_StateE (ti := ti) ((PtOwn.at_ (R := (b2, .cells (Entry_enc en) 27 (0, 0)) :: L) hp11).cons) hid) rfl ?_)
                    rintro _ _ ⟨rfl, rfl⟩
                    rw [hh11.state hI11]
                    refine Seq.rd0 at4 rfl rfl (O.neI rfl rfl) ?_
                    refine Seq.rd0 at5 rfl rfl (O.move (v := .bool _) rfl) ?_
                    have t101 : (1 : Int) = 1 := rfl
                    rw [decide_eq_true t101]
                    refine Seq.rd0 at6 rfl rfl (O.move (v := .pointer _) (by exact s28)) ?_
                    refine Seq.rd0 at7 rfl rfl (O.field fo_27_0 (by exact s27)) ?_
                    refine Seq.rd1 at8 rfl rfl (O.load kd_2 rfl (Entry_id _)) Rd.head.app.cons ?_
                    refine Seq.rd1 at9 rfl rfl (O.loadA kd_24 rfl (Nat.le_of_ble_eq_true rfl) (Stamp_all _)) Rd.head ?_
                    obtain ⟨hgo, hap, hcm⟩ := hh11.commit hI11 hug.1 hug.2
                    refine Seq.op at10 rfl (Op.callF rfl hb_17 (Fn.perm (C_CommitE (L := ((b98, _) :: []) ++ ((b2, .cells (Entry_enc en) 27 (0, 0)) :: L)) hp11 (ti := ti) (s := (⟨en.stamp.t + u, en.stamp.n⟩ : Stamp)) hid) (bring (pre := ((b98, _) :: [])) (Ls := L11) (R := ((b2, .cells (Entry_enc en) 27 (0, 0)) :: L)))) rfl ?_)
                    rintro _ _ ⟨rfl, l12, L12, rfl, _, ha12⟩
                    rw [hcm]
                    obtain ⟨hp12, hA12, _⟩ := ha12 hgo
                    have hA12 := hA12 (by rw [hh11.entT.1]; exact hap)
                    rw [hh11.entT.1] at hp12 hA12
                    refine Ent.perm ?_ (bring (Ls := L12) (pre := ((b98, _) :: [])) (R := ((b2, .cells (Entry_enc en) 27 (0, 0)) :: L))).symm
                    refine Seq.rd0 at11 rfl rfl (O.neI rfl rfl) ?_
                    refine Seq.rd0 at12 rfl rfl (O.pickF (v := .bool _) rfl rfl) ?_
                    refine Seq.nil ?_
                    refine hK100 ?_
                    refine Cd.ifn ((0 : Int) = 0) rfl (fun t102 => ?_) (fun t102 => ?_)
                    · skip
                      refine Cd.seq (fun K103 hK103 => ?_)
                      refine Cd.region [0] rfl ?_
                      refine Seq.rd0 at0 rfl rfl (O.assign (v := .bool _) rfl) ?_
                      refine Seq.nil ?_
                      refine hK103 ?_
                      refine Cd.ret ?_
                      exfalso; first | (have h9 : ((!ws[j].gone) == ws[j].gone) = true := (by assumption); revert h9; cases ws[j].gone <;> decide) | omega
                    · skip
                      refine Cd.skip ?_
                      refine hK99 ?_
                      refine Cd.seq (fun K104 hK104 => ?_)
                      refine Cd.seq (fun K105 hK105 => ?_)
                      refine Cd.region [0] rfl ?_
                      refine Seq.rd0 at0 rfl rfl (O.assign (v := .int .i64 _) rfl) ?_
                      refine Seq.nil ?_
                      refine hK105 ?_
                      refine Cd.block ?_
                      refine Cd.loop (fun m106 e107 L108 => ∃ j : Nat, m106 = ws.length - j ∧ e107 5 = .pointer (some ⟨b2, 0, none⟩) ∧ e107 9 = .pointer (some ⟨pb, 0, none⟩) ∧ e107 12 = .pointer (some ⟨b98, 0, none⟩) ∧ e107 13 = .int .i64 (j : Int) ∧ L108 = (b98, .cells (Stamp_enc (⟨(en.stamp.t + u), en.stamp.n⟩ : Stamp)) 24 (0, 0)) :: (L12 ++ ((b2, .cells (Entry_enc en) 27 (0, 0)) :: L)) ∧ j ≤ ws.length) _ ⟨0, rfl, (by exact s27), (by exact s28), rfl, rfl, rfl, Nat.zero_le _⟩ ?_
                      rintro _ e107 _ ⟨j, rfl, s109, s110, s111, s112, rfl, hj⟩ K113 hK113
                      refine Cd.seq (fun K114 hK114 => ?_)
                      refine Cd.seq (fun K115 hK115 => ?_)
                      refine Cd.region [0, 1, 2, 3, 4] rfl ?_
                      refine Seq.rd0 at0 rfl rfl (O.move (v := .int .i64 _) (by exact s112)) ?_
                      refine Seq.rd0 at1 rfl rfl (O.field fo_27_3 (by exact s109)) ?_
                      refine Seq.rd1 at2 rfl rfl (O.load kd_25 rfl (Entry_ws _)) Rd.head.app.cons ?_
                      refine Seq.rd0 at3 rfl rfl (O.lenS ds_25 rfl) ?_
                      refine Seq.rd0 at4 rfl rfl (O.lss rfl rfl) ?_
                      refine Seq.nil ?_
                      refine hK115 ?_
                      refine Cd.if ((j : Int) < (en.ws.n : Int)) rfl (fun t116 => ?_) (fun t116 => ?_)
                      · skip
                        refine Cd.skip ?_
                        refine hK114 ?_
                        refine Cd.seq (fun K117 hK117 => ?_)
                        refine Cd.block ?_
                        refine Cd.seq (fun K118 hK118 => ?_)
                        refine Cd.draw 18 rfl po ?_
                        refine Any.rd0 0 at0 rfl rfl (O.move (v := .pointer _) (by exact s110)) (by kernel_rfl) (by kernel_rfl) (by kernel_rfl) ?_
                        refine Any.rd0 1 at1 rfl rfl (O.field fo_27_3 (by exact s109)) (by kernel_rfl) (by kernel_rfl) (by kernel_rfl) ?_
                        refine Any.rd1 2 at2 rfl rfl (O.load kd_25 rfl (Entry_ws _)) Rd.head.app.cons (by kernel_rfl) (by kernel_rfl) (by kernel_rfl) ?_
                        refine Any.rd0 3 at3 rfl rfl (O.move (v := .int .i64 _) (by exact s112)) (by kernel_rfl) (by kernel_rfl) (by kernel_rfl) ?_
                        have hlt119 : j < ws.length := by omega
                        obtain ⟨pre119, sp119, el119, fz119, hav119, hrd119⟩ := hE.at_ hlt119
                        refine Any.rd0 4 at4 rfl rfl (O.indexG sl_25 rfl hav119 rfl (by omega) (by omega)) (by kernel_rfl) (by kernel_rfl) (by kernel_rfl) ?_
                        refine Any.rd0 5 at5 rfl rfl (O.field fo_47_0 rfl) (by kernel_rfl) (by kernel_rfl) (by kernel_rfl) ?_
                        refine Any.rd1 6 at6 rfl rfl (O.loadA kd_45 rfl (rowRoomFP Write_size (getN hlt119) (by decide)) (rowSubP Write_size (getN hlt119) (by decide) (Write_key _))) hrd119.cons.app.cons (by kernel_rfl) (by kernel_rfl) (by kernel_rfl) ?_
                        refine Any.rd1 7 at7 rfl rfl (O.loadA kd_24 (by exact s111) (Nat.le_of_ble_eq_true rfl) (Stamp_all _)) Rd.head (by kernel_rfl) (by kernel_rfl) (by kernel_rfl) ?_
                        refine Any.rd0 8 at8 rfl rfl (O.field fo_24_0 (by exact s111)) (by kernel_rfl) (by kernel_rfl) (by kernel_rfl) ?_
                        refine Any.rd1 9 at9 rfl rfl (O.load kd_2 rfl (Stamp_t _)) Rd.head (by kernel_rfl) (by kernel_rfl) (by kernel_rfl) ?_
                        refine Any.one 10 at10 rfl (by kernel_rfl) ⟨⟨⟨⟨trivial, Rd.head.app.cons⟩, hrd119.cons.app.cons⟩, Rd.head⟩, Rd.head⟩ ?_
                        have hrd9 := hh11.read hI11 hug.1 hug.2 hA12 (List.getElem_mem hlt119)
                        refine Op.callF rfl hb_20 (C_Read (k := ws[j].key) (s := (⟨en.stamp.t + u, en.stamp.n⟩ : Stamp)) (now := (⟨en.stamp.t + u, en.stamp.n⟩ : Stamp).t) ((PtOwn.at_ (R := (b2, .cells (Entry_enc en) 27 (0, 0)) :: L) hp12).cons)) rfl ?_
                        rintro _ _ ⟨rfl, rfl⟩
                        rw [hrd9]
                        refine Any.toK ?_
                        refine Any.rd0 11 at11 rfl rfl (O.move (v := .tuple _) rfl) (by kernel_rfl) (by kernel_rfl) (by kernel_rfl) ?_
                        refine Any.rd0 12 at12 rfl rfl (O.ext rfl r3_0) (by kernel_rfl) (by kernel_rfl) (by kernel_rfl) ?_
                        refine Any.rd0 13 at13 rfl rfl (O.ext rfl r3_1) (by kernel_rfl) (by kernel_rfl) (by kernel_rfl) ?_
                        refine Any.rd0 14 at14 rfl rfl (O.ext rfl r3_2) (by kernel_rfl) (by kernel_rfl) (by kernel_rfl) ?_
                        refine Any.rd0 15 at15 rfl rfl (O.assign (v := .string _) rfl) (by kernel_rfl) (by kernel_rfl) (by kernel_rfl) ?_
                        refine Any.rd0 16 at16 rfl rfl (O.assign (v := .bool _) rfl) (by kernel_rfl) (by kernel_rfl) (by kernel_rfl) ?_
                        refine Any.rd0 17 at17 rfl rfl (O.assign (v := .int .i64 _) rfl) (by kernel_rfl) (by kernel_rfl) (by kernel_rfl) ?_
                        refine Any.done (by kernel_rfl) ⟨⟨⟨⟨trivial, Rd.head.app.cons⟩, hrd119.cons.app.cons⟩, Rd.head⟩, Rd.head⟩ ?_
                        refine hK118 ?_
                        refine Cd.seq (fun K120 hK120 => ?_)
                        refine Cd.region [0, 1, 2, 3, 4, 5, 6, 7, 8, 9, 10, 11, 12, 13, 14, 15, 16, 17, 18, 19, 20, 21] rfl ?_
                        refine Seq.rd0 at0 rfl rfl (O.move (v := .int .i64 _) rfl) ?_
                        refine Seq.rd0 at1 rfl rfl (O.neI rfl rfl) ?_
                        refine Seq.rd0 at2 rfl rfl (O.move (v := .bool _) rfl) ?_
                        have t121 : (0 : Int) = 0 := rfl
                        rw [decide_eq_true t121]
                        refine Seq.rd0 at3 rfl rfl (O.move (v := .bool _) rfl) ?_
                        refine Seq.rd0 at4 rfl rfl (O.field fo_27_3 (by exact s109)) ?_
                        refine Seq.rd1 at5 rfl rfl (O.load kd_25 rfl (Entry_ws _)) Rd.head.app.cons ?_
                        refine Seq.rd0 at6 rfl rfl (O.move (v := .int .i64 _) (by exact s112)) ?_
                        have hlt122 : j < ws.length := by omega
                        obtain ⟨pre122, sp122, el122, fz122, hav122, hrd122⟩ := hE.at_ hlt122
                        refine Seq.rd0 at7 rfl rfl (O.indexG sl_25 rfl hav122 rfl (by omega) (by omega)) ?_
                        refine Seq.rd0 at8 rfl rfl (O.field fo_47_2 rfl) ?_
                        refine Seq.rd1 at9 rfl rfl (O.load kd_4 rfl ((rowGetP Write_size (getN hlt122) (by decide)).trans (Write_gone _))) hrd122.cons.app.cons ?_
                        refine Seq.rd0 at10 rfl rfl (O.eqB ds_4 rfl rfl) ?_
                        refine Seq.rd0 at11 rfl rfl (O.pickF (v := .bool _) rfl rfl) ?_
                        refine Seq.rd0 at12 rfl rfl (O.move (v := .bool _) rfl) ?_
                        cases t123 : ((!ws[j].gone) == ws[j].gone)
                        · skip
                          refine Seq.rd0 at13 rfl rfl (O.move (v := .string _) rfl) ?_
                          refine Seq.rd0 at14 rfl rfl (O.field fo_27_3 (by exact s109)) ?_
                          refine Seq.rd1 at15 rfl rfl (O.load kd_25 rfl (Entry_ws _)) Rd.head.app.cons ?_
                          refine Seq.rd0 at16 rfl rfl (O.move (v := .int .i64 _) (by exact s112)) ?_
                          have hlt124 : j < ws.length := by omega
                          obtain ⟨pre124, sp124, el124, fz124, hav124, hrd124⟩ := hE.at_ hlt124
                          refine Seq.rd0 at17 rfl rfl (O.indexG sl_25 rfl hav124 rfl (by omega) (by omega)) ?_
                          refine Seq.rd0 at18 rfl rfl (O.field fo_47_1 rfl) ?_
                          refine Seq.rd1 at19 rfl rfl (O.load kd_9 rfl ((rowGetP Write_size (getN hlt124) (by decide)).trans (Write_val _))) hrd124.cons.app.cons ?_
                          refine Seq.rd0 at20 rfl rfl (O.neS rfl rfl) ?_
                          refine Seq.rd0 at21 rfl rfl (O.pickF (v := .bool _) rfl rfl) ?_
                          refine Seq.nil ?_
                          refine hK120 ?_
                          refine Cd.ifn (ws[j].val = ws[j].val) rfl (fun t125 => ?_) (fun t125 => ?_)
                          · skip
                            exact absurd rfl t125
                          · skip
                            refine Cd.skip ?_
                            refine hK117 ?_
                            refine Cd.region [0, 1, 2] rfl ?_
                            refine Seq.rd0 at0 rfl rfl (O.move (v := .int .i64 _) (by exact s112)) ?_
                            refine Seq.rd0 at1 rfl rfl (O.add rfl rfl (by omega) (by omega)) ?_
                            refine Seq.rd0 at2 rfl rfl (O.assign (v := .int .i64 _) rfl) ?_
                            refine Seq.nil ?_
                            exact hK113 _ (by omega) ⟨j + 1, rfl, (by exact s109), (by exact s110), (by exact s111), rfl, rfl, by omega⟩
                        · skip
                          refine Seq.pass at13 rfl rfl ?_
                          refine Seq.pass at14 rfl rfl ?_
                          refine Seq.pass at15 rfl rfl ?_
                          refine Seq.pass at16 rfl rfl ?_
                          refine Seq.pass at17 rfl rfl ?_
                          refine Seq.pass at18 rfl rfl ?_
                          refine Seq.pass at19 rfl rfl ?_
                          refine Seq.pass at20 rfl rfl ?_
                          refine Seq.rd0 at21 rfl rfl (O.pickT (v := .bool _) rfl rfl) ?_
                          refine Seq.nil ?_
                          refine hK120 ?_
                          refine Cd.condT rfl ?_
                          refine Cd.seq (fun K126 hK126 => ?_)
                          refine Cd.region [0] rfl ?_
                          refine Seq.rd0 at0 rfl rfl (O.assign (v := .bool _) rfl) ?_
                          refine Seq.nil ?_
                          refine hK126 ?_
                          refine Cd.ret ?_
                          exfalso; first | (have h9 : ((!ws[j].gone) == ws[j].gone) = true := (by assumption); revert h9; cases ws[j].gone <;> decide) | omega
                      · skip
                        refine Cd.exit ?_
                        refine hK104 ?_
                        refine Cd.seq (fun K127 hK127 => ?_)
                        refine Cd.region [0, 1, 2, 3, 4, 5] rfl ?_
                        refine Seq.rd0 at0 rfl rfl (O.move (v := .pointer _) (by exact s110)) ?_
                        refine Seq.rd0 at1 rfl rfl (O.field fo_27_0 (by exact s109)) ?_
                        refine Seq.rd1 at2 rfl rfl (O.load kd_2 rfl (Entry_id _)) Rd.head.app.cons ?_
                        refine Seq.op at3 rfl (Op.callF rfl hb_19 (C_StateE (ti := ti) ((PtOwn.at_ (R := (b2, .cells (Entry_enc en) 27 (0, 0)) :: L) hp12).cons) hid) rfl ?_)
                        rintro _ _ ⟨rfl, rfl⟩
                        rw [state_two]
                        refine Seq.rd0 at4 rfl rfl (O.eqI rfl rfl) ?_
                        refine Seq.rd0 at5 rfl rfl (O.assign (v := .bool _) rfl) ?_
                        refine Seq.nil ?_
                        refine hK127 ?_
                        refine Cd.ret ?_
                        exact hR _ L (Res.one (v := .bool _) rfl rfl) ⟨rfl, rfl⟩ (.cons _ (sub_app (G := L12) (.cons _ (.refl _))))
                · rw [decide_eq_false t94]
                  refine Seq.pass at4 rfl rfl ?_
                  refine Seq.pass at5 rfl rfl ?_
                  refine Seq.pass at6 rfl rfl ?_
                  refine Seq.pass at7 rfl rfl ?_
                  refine Seq.rd0 at8 rfl rfl (O.pickF (v := .bool _) rfl rfl) ?_
                  refine Seq.nil ?_
                  refine hK93 ?_
                  refine Cd.condF rfl ?_
                  refine Cd.skip ?_
                  refine hK92 ?_
                  refine Cd.seq (fun K128 hK128 => ?_)
                  refine Cd.region [0, 1, 2, 3, 4, 5, 6, 7, 8, 9, 10] rfl ?_
                  refine Seq.rd0 at0 rfl rfl (O.field fo_27_2 (by exact s27)) ?_
                  refine Seq.rd0 at1 rfl rfl (O.field fo_24_0 rfl) ?_
                  refine Seq.rd1 at2 rfl rfl (O.load kd_2 rfl (Entry_stamp_t _)) Rd.head.app ?_
                  refine Seq.rd0 at3 rfl rfl (O.move (v := .int .i64 _) (by exact s26)) ?_
                  obtain ⟨l10, el10, hl10, ol10, L10, hL10, hp10, hI10, hh10⟩ : ∃ l10 el10 hl10 ol10 L10, L10 = L1 ∧ PtOwn pb l10 el10 hl10 ol10 L10 ∧ Inv l10 el10 hl10 ol10 ∧ (HeldE el10 ti en ws) := by
                    refine ⟨_, _, _, _, _, rfl, hp1, hI1, ?_⟩
                    first | exact fun hle => hh1 (by omega) | exact hh1 (by omega)
                  rw [← hL10]
                  have hst0 := goodE_stamp (hh10.good hI10)
                  have hug := up_good (u := u) hst0 (by assumption) (by assumption) (by assumption)
                  refine Seq.rd0 at4 rfl rfl (O.add rfl rfl (by omega) (by omega)) ?_
                  refine Seq.rd0 at5 rfl rfl (O.field fo_27_2 (by exact s27)) ?_
                  refine Seq.rd0 at6 rfl rfl (O.field fo_24_1 rfl) ?_
                  refine Seq.rd1 at7 rfl rfl (O.load kd_5 rfl (Entry_stamp_n _)) Rd.head.app ?_
                  refine Seq.rd0 at8 rfl rfl (O.build rfl (cs := (Stamp_enc (⟨(en.stamp.t + u), en.stamp.n⟩ : Stamp))) (by kernel_rfl)) ?_
                  refine Seq.op at9 rfl (Op.new rfl (O.alloc zo_24 (cs := (Stamp_enc Stamp.zero)) rfl) ?_)
                  intro b129 hb129
                  refine Seq.op at10 rfl (Op.set0 rfl (O.store kd_24 rfl (v := .agg _) rfl (Stamp_size _) (Stamp_room (Stamp_size _)) (Stamp_one _) (Stamp_put _ (Stamp_size _))) ?_)
                  refine Seq.nil ?_
                  refine hK128 ?_
                  refine Cd.seq (fun K130 hK130 => ?_)
                  refine Cd.seq (fun K131 hK131 => ?_)
                  refine Cd.region [0, 1, 2, 3, 4, 5, 6, 7, 8, 9, 10, 11, 12] rfl ?_
                  refine Seq.rd0 at0 rfl rfl (O.move (v := .pointer _) (by exact s28)) ?_
                  refine Seq.rd0 at1 rfl rfl (O.field fo_27_0 (by exact s27)) ?_
                  refine Seq.rd1 at2 rfl rfl (O.load kd_2 rfl (Entry_id _)) Rd.head.app.cons ?_
                  obtain ⟨l11, el11, hl11, ol11, L11, hL11, hp11, hI11, hh11⟩ : ∃ l11 el11 hl11 ol11 L11, L11 = L10 ∧ PtOwn pb l11 el11 hl11 ol11 L11 ∧ Inv l11 el11 hl11 ol11 ∧ (HeldE el11 ti en ws) := by
                    refine ⟨_, _, _, _, _, rfl, hp10, hI10, ?_⟩
                    exact hh10
                  rw [← hL11]
                  refine Seq.op at3 rfl (Op.callF rfl hb_19 (C_StateE (ti := ti) ((PtOwn.at_ (R := (b2, .cells (Entry_enc en) 27 (0, 0)) :: L) hp11).cons) hid) rfl ?_)
                  rintro _ _ ⟨rfl, rfl⟩
                  rw [hh11.state hI11]
                  refine Seq.rd0 at4 rfl rfl (O.neI rfl rfl) ?_
                  refine Seq.rd0 at5 rfl rfl (O.move (v := .bool _) rfl) ?_
                  have t132 : (1 : Int) = 1 := rfl
                  rw [decide_eq_true t132]
                  refine Seq.rd0 at6 rfl rfl (O.move (v := .pointer _) (by exact s28)) ?_
                  refine Seq.rd0 at7 rfl rfl (O.field fo_27_0 (by exact s27)) ?_
                  refine Seq.rd1 at8 rfl rfl (O.load kd_2 rfl (Entry_id _)) Rd.head.app.cons ?_
                  refine Seq.rd1 at9 rfl rfl (O.loadA kd_24 rfl (Nat.le_of_ble_eq_true rfl) (Stamp_all _)) Rd.head ?_
                  obtain ⟨hgo, hap, hcm⟩ := hh11.commit hI11 hug.1 hug.2
                  refine Seq.op at10 rfl (Op.callF rfl hb_17 (Fn.perm (C_CommitE (L := ((b129, _) :: []) ++ ((b2, .cells (Entry_enc en) 27 (0, 0)) :: L)) hp11 (ti := ti) (s := (⟨en.stamp.t + u, en.stamp.n⟩ : Stamp)) hid) (bring (pre := ((b129, _) :: [])) (Ls := L11) (R := ((b2, .cells (Entry_enc en) 27 (0, 0)) :: L)))) rfl ?_)
                  rintro _ _ ⟨rfl, l12, L12, rfl, _, ha12⟩
                  rw [hcm]
                  obtain ⟨hp12, hA12, _⟩ := ha12 hgo
                  have hA12 := hA12 (by rw [hh11.entT.1]; exact hap)
                  rw [hh11.entT.1] at hp12 hA12
                  refine Ent.perm ?_ (bring (Ls := L12) (pre := ((b129, _) :: [])) (R := ((b2, .cells (Entry_enc en) 27 (0, 0)) :: L))).symm
                  refine Seq.rd0 at11 rfl rfl (O.neI rfl rfl) ?_
                  refine Seq.rd0 at12 rfl rfl (O.pickF (v := .bool _) rfl rfl) ?_
                  refine Seq.nil ?_
                  refine hK131 ?_
                  refine Cd.ifn ((0 : Int) = 0) rfl (fun t133 => ?_) (fun t133 => ?_)
                  · skip
                    refine Cd.seq (fun K134 hK134 => ?_)
                    refine Cd.region [0] rfl ?_
                    refine Seq.rd0 at0 rfl rfl (O.assign (v := .bool _) rfl) ?_
                    refine Seq.nil ?_
                    refine hK134 ?_
                    refine Cd.ret ?_
                    exfalso; first | (have h9 : ((!ws[j].gone) == ws[j].gone) = true := (by assumption); revert h9; cases ws[j].gone <;> decide) | omega
                  · skip
                    refine Cd.skip ?_
                    refine hK130 ?_
                    refine Cd.seq (fun K135 hK135 => ?_)
                    refine Cd.seq (fun K136 hK136 => ?_)
                    refine Cd.region [0] rfl ?_
                    refine Seq.rd0 at0 rfl rfl (O.assign (v := .int .i64 _) rfl) ?_
                    refine Seq.nil ?_
                    refine hK136 ?_
                    refine Cd.block ?_
                    refine Cd.loop (fun m137 e138 L139 => ∃ j : Nat, m137 = ws.length - j ∧ e138 5 = .pointer (some ⟨b2, 0, none⟩) ∧ e138 9 = .pointer (some ⟨pb, 0, none⟩) ∧ e138 12 = .pointer (some ⟨b129, 0, none⟩) ∧ e138 13 = .int .i64 (j : Int) ∧ L139 = (b129, .cells (Stamp_enc (⟨(en.stamp.t + u), en.stamp.n⟩ : Stamp)) 24 (0, 0)) :: (L12 ++ ((b2, .cells (Entry_enc en) 27 (0, 0)) :: L)) ∧ j ≤ ws.length) _ ⟨0, rfl, (by exact s27), (by exact s28), rfl, rfl, rfl, Nat.zero_le _⟩ ?_
                    rintro _ e138 _ ⟨j, rfl, s140, s141, s142, s143, rfl, hj⟩ K144 hK144
                    refine Cd.seq (fun K145 hK145 => ?_)
                    refine Cd.seq (fun K146 hK146 => ?_)
                    refine Cd.region [0, 1, 2, 3, 4] rfl ?_
                    refine Seq.rd0 at0 rfl rfl (O.move (v := .int .i64 _) (by exact s143)) ?_
                    refine Seq.rd0 at1 rfl rfl (O.field fo_27_3 (by exact s140)) ?_
                    refine Seq.rd1 at2 rfl rfl (O.load kd_25 rfl (Entry_ws _)) Rd.head.app.cons ?_
                    refine Seq.rd0 at3 rfl rfl (O.lenS ds_25 rfl) ?_
                    refine Seq.rd0 at4 rfl rfl (O.lss rfl rfl) ?_
                    refine Seq.nil ?_
                    refine hK146 ?_
                    refine Cd.if ((j : Int) < (en.ws.n : Int)) rfl (fun t147 => ?_) (fun t147 => ?_)
                    · skip
                      refine Cd.skip ?_
                      refine hK145 ?_
                      refine Cd.seq (fun K148 hK148 => ?_)
                      refine Cd.block ?_
                      refine Cd.seq (fun K149 hK149 => ?_)
                      refine Cd.draw 18 rfl po ?_
                      refine Any.rd0 0 at0 rfl rfl (O.move (v := .pointer _) (by exact s141)) (by kernel_rfl) (by kernel_rfl) (by kernel_rfl) ?_
                      refine Any.rd0 1 at1 rfl rfl (O.field fo_27_3 (by exact s140)) (by kernel_rfl) (by kernel_rfl) (by kernel_rfl) ?_
                      refine Any.rd1 2 at2 rfl rfl (O.load kd_25 rfl (Entry_ws _)) Rd.head.app.cons (by kernel_rfl) (by kernel_rfl) (by kernel_rfl) ?_
                      refine Any.rd0 3 at3 rfl rfl (O.move (v := .int .i64 _) (by exact s143)) (by kernel_rfl) (by kernel_rfl) (by kernel_rfl) ?_
                      have hlt150 : j < ws.length := by omega
                      obtain ⟨pre150, sp150, el150, fz150, hav150, hrd150⟩ := hE.at_ hlt150
                      refine Any.rd0 4 at4 rfl rfl (O.indexG sl_25 rfl hav150 rfl (by omega) (by omega)) (by kernel_rfl) (by kernel_rfl) (by kernel_rfl) ?_
                      refine Any.rd0 5 at5 rfl rfl (O.field fo_47_0 rfl) (by kernel_rfl) (by kernel_rfl) (by kernel_rfl) ?_
                      refine Any.rd1 6 at6 rfl rfl (O.loadA kd_45 rfl (rowRoomFP Write_size (getN hlt150) (by decide)) (rowSubP Write_size (getN hlt150) (by decide) (Write_key _))) hrd150.cons.app.cons (by kernel_rfl) (by kernel_rfl) (by kernel_rfl) ?_
                      refine Any.rd1 7 at7 rfl rfl (O.loadA kd_24 (by exact s142) (Nat.le_of_ble_eq_true rfl) (Stamp_all _)) Rd.head (by kernel_rfl) (by kernel_rfl) (by kernel_rfl) ?_
                      refine Any.rd0 8 at8 rfl rfl (O.field fo_24_0 (by exact s142)) (by kernel_rfl) (by kernel_rfl) (by kernel_rfl) ?_
                      refine Any.rd1 9 at9 rfl rfl (O.load kd_2 rfl (Stamp_t _)) Rd.head (by kernel_rfl) (by kernel_rfl) (by kernel_rfl) ?_
                      refine Any.one 10 at10 rfl (by kernel_rfl) ⟨⟨⟨⟨trivial, Rd.head.app.cons⟩, hrd150.cons.app.cons⟩, Rd.head⟩, Rd.head⟩ ?_
                      have hrd9 := hh11.read hI11 hug.1 hug.2 hA12 (List.getElem_mem hlt150)
                      refine Op.callF rfl hb_20 (C_Read (k := ws[j].key) (s := (⟨en.stamp.t + u, en.stamp.n⟩ : Stamp)) (now := (⟨en.stamp.t + u, en.stamp.n⟩ : Stamp).t) ((PtOwn.at_ (R := (b2, .cells (Entry_enc en) 27 (0, 0)) :: L) hp12).cons)) rfl ?_
                      rintro _ _ ⟨rfl, rfl⟩
                      rw [hrd9]
                      refine Any.toK ?_
                      refine Any.rd0 11 at11 rfl rfl (O.move (v := .tuple _) rfl) (by kernel_rfl) (by kernel_rfl) (by kernel_rfl) ?_
                      refine Any.rd0 12 at12 rfl rfl (O.ext rfl r3_0) (by kernel_rfl) (by kernel_rfl) (by kernel_rfl) ?_
                      refine Any.rd0 13 at13 rfl rfl (O.ext rfl r3_1) (by kernel_rfl) (by kernel_rfl) (by kernel_rfl) ?_
                      refine Any.rd0 14 at14 rfl rfl (O.ext rfl r3_2) (by kernel_rfl) (by kernel_rfl) (by kernel_rfl) ?_
                      refine Any.rd0 15 at15 rfl rfl (O.assign (v := .string _) rfl) (by kernel_rfl) (by kernel_rfl) (by kernel_rfl) ?_
                      refine Any.rd0 16 at16 rfl rfl (O.assign (v := .bool _) rfl) (by kernel_rfl) (by kernel_rfl) (by kernel_rfl) ?_
                      refine Any.rd0 17 at17 rfl rfl (O.assign (v := .int .i64 _) rfl) (by kernel_rfl) (by kernel_rfl) (by kernel_rfl) ?_
                      refine Any.done (by kernel_rfl) ⟨⟨⟨⟨trivial, Rd.head.app.cons⟩, hrd150.cons.app.cons⟩, Rd.head⟩, Rd.head⟩ ?_
                      refine hK149 ?_
                      refine Cd.seq (fun K151 hK151 => ?_)
                      refine Cd.region [0, 1, 2, 3, 4, 5, 6, 7, 8, 9, 10, 11, 12, 13, 14, 15, 16, 17, 18, 19, 20, 21] rfl ?_
                      refine Seq.rd0 at0 rfl rfl (O.move (v := .int .i64 _) rfl) ?_
                      refine Seq.rd0 at1 rfl rfl (O.neI rfl rfl) ?_
                      refine Seq.rd0 at2 rfl rfl (O.move (v := .bool _) rfl) ?_
                      have t152 : (0 : Int) = 0 := rfl
                      rw [decide_eq_true t152]
                      refine Seq.rd0 at3 rfl rfl (O.move (v := .bool _) rfl) ?_
                      refine Seq.rd0 at4 rfl rfl (O.field fo_27_3 (by exact s140)) ?_
                      refine Seq.rd1 at5 rfl rfl (O.load kd_25 rfl (Entry_ws _)) Rd.head.app.cons ?_
                      refine Seq.rd0 at6 rfl rfl (O.move (v := .int .i64 _) (by exact s143)) ?_
                      have hlt153 : j < ws.length := by omega
                      obtain ⟨pre153, sp153, el153, fz153, hav153, hrd153⟩ := hE.at_ hlt153
                      refine Seq.rd0 at7 rfl rfl (O.indexG sl_25 rfl hav153 rfl (by omega) (by omega)) ?_
                      refine Seq.rd0 at8 rfl rfl (O.field fo_47_2 rfl) ?_
                      refine Seq.rd1 at9 rfl rfl (O.load kd_4 rfl ((rowGetP Write_size (getN hlt153) (by decide)).trans (Write_gone _))) hrd153.cons.app.cons ?_
                      refine Seq.rd0 at10 rfl rfl (O.eqB ds_4 rfl rfl) ?_
                      refine Seq.rd0 at11 rfl rfl (O.pickF (v := .bool _) rfl rfl) ?_
                      refine Seq.rd0 at12 rfl rfl (O.move (v := .bool _) rfl) ?_
                      cases t154 : ((!ws[j].gone) == ws[j].gone)
                      · skip
                        refine Seq.rd0 at13 rfl rfl (O.move (v := .string _) rfl) ?_
                        refine Seq.rd0 at14 rfl rfl (O.field fo_27_3 (by exact s140)) ?_
                        refine Seq.rd1 at15 rfl rfl (O.load kd_25 rfl (Entry_ws _)) Rd.head.app.cons ?_
                        refine Seq.rd0 at16 rfl rfl (O.move (v := .int .i64 _) (by exact s143)) ?_
                        have hlt155 : j < ws.length := by omega
                        obtain ⟨pre155, sp155, el155, fz155, hav155, hrd155⟩ := hE.at_ hlt155
                        refine Seq.rd0 at17 rfl rfl (O.indexG sl_25 rfl hav155 rfl (by omega) (by omega)) ?_
                        refine Seq.rd0 at18 rfl rfl (O.field fo_47_1 rfl) ?_
                        refine Seq.rd1 at19 rfl rfl (O.load kd_9 rfl ((rowGetP Write_size (getN hlt155) (by decide)).trans (Write_val _))) hrd155.cons.app.cons ?_
                        refine Seq.rd0 at20 rfl rfl (O.neS rfl rfl) ?_
                        refine Seq.rd0 at21 rfl rfl (O.pickF (v := .bool _) rfl rfl) ?_
                        refine Seq.nil ?_
                        refine hK151 ?_
                        refine Cd.ifn (ws[j].val = ws[j].val) rfl (fun t156 => ?_) (fun t156 => ?_)
                        · skip
                          exact absurd rfl t156
                        · skip
                          refine Cd.skip ?_
                          refine hK148 ?_
                          refine Cd.region [0, 1, 2] rfl ?_
                          refine Seq.rd0 at0 rfl rfl (O.move (v := .int .i64 _) (by exact s143)) ?_
                          refine Seq.rd0 at1 rfl rfl (O.add rfl rfl (by omega) (by omega)) ?_
                          refine Seq.rd0 at2 rfl rfl (O.assign (v := .int .i64 _) rfl) ?_
                          refine Seq.nil ?_
                          exact hK144 _ (by omega) ⟨j + 1, rfl, (by exact s140), (by exact s141), (by exact s142), rfl, rfl, by omega⟩
                      · skip
                        refine Seq.pass at13 rfl rfl ?_
                        refine Seq.pass at14 rfl rfl ?_
                        refine Seq.pass at15 rfl rfl ?_
                        refine Seq.pass at16 rfl rfl ?_
                        refine Seq.pass at17 rfl rfl ?_
                        refine Seq.pass at18 rfl rfl ?_
                        refine Seq.pass at19 rfl rfl ?_
                        refine Seq.pass at20 rfl rfl ?_
                        refine Seq.rd0 at21 rfl rfl (O.pickT (v := .bool _) rfl rfl) ?_
                        refine Seq.nil ?_
                        refine hK151 ?_
                        refine Cd.condT rfl ?_
                        refine Cd.seq (fun K157 hK157 => ?_)
                        refine Cd.region [0] rfl ?_
                        refine Seq.rd0 at0 rfl rfl (O.assign (v := .bool _) rfl) ?_
                        refine Seq.nil ?_
                        refine hK157 ?_
                        refine Cd.ret ?_
                        exfalso; first | (have h9 : ((!ws[j].gone) == ws[j].gone) = true := (by assumption); revert h9; cases ws[j].gone <;> decide) | omega
                    · skip
                      refine Cd.exit ?_
                      refine hK135 ?_
                      refine Cd.seq (fun K158 hK158 => ?_)
                      refine Cd.region [0, 1, 2, 3, 4, 5] rfl ?_
                      refine Seq.rd0 at0 rfl rfl (O.move (v := .pointer _) (by exact s141)) ?_
                      refine Seq.rd0 at1 rfl rfl (O.field fo_27_0 (by exact s140)) ?_
                      refine Seq.rd1 at2 rfl rfl (O.load kd_2 rfl (Entry_id _)) Rd.head.app.cons ?_
                      refine Seq.op at3 rfl (Op.callF rfl hb_19 (C_StateE (ti := ti) ((PtOwn.at_ (R := (b2, .cells (Entry_enc en) 27 (0, 0)) :: L) hp12).cons) hid) rfl ?_)
                      rintro _ _ ⟨rfl, rfl⟩
                      rw [state_two]
                      refine Seq.rd0 at4 rfl rfl (O.eqI rfl rfl) ?_
                      refine Seq.rd0 at5 rfl rfl (O.assign (v := .bool _) rfl) ?_
                      refine Seq.nil ?_
                      refine hK158 ?_
                      refine Cd.ret ?_
                      exact hR _ L (Res.one (v := .bool _) rfl rfl) ⟨rfl, rfl⟩ (.cons _ (sub_app (G := L12) (.cons _ (.refl _))))
      · skip
        refine Seq.pass at14 rfl rfl ?_
        refine Seq.pass at15 rfl rfl ?_
        refine Seq.rd0 at16 rfl rfl (O.pickT (v := .bool _) rfl rfl) ?_
        refine Seq.rd0 at17 rfl rfl (O.move (v := .bool _) rfl) ?_
        refine Seq.pass at18 rfl rfl ?_
        refine Seq.pass at19 rfl rfl ?_
        refine Seq.rd0 at20 rfl rfl (O.pickT (v := .bool _) rfl rfl) ?_
        refine Seq.rd0 at21 rfl rfl (O.move (v := .bool _) rfl) ?_
        refine Seq.pass at22 rfl rfl ?_
        refine Seq.pass at23 rfl rfl ?_
        refine Seq.pass at24 rfl rfl ?_
        refine Seq.pass at25 rfl rfl ?_
        refine Seq.rd0 at26 rfl rfl (O.pickT (v := .bool _) rfl rfl) ?_
        refine Seq.nil ?_
        refine hK6 ?_
        refine Cd.condT rfl ?_
        refine Cd.seq (fun K159 hK159 => ?_)
        refine Cd.region [0] rfl ?_
        refine Seq.rd0 at0 rfl rfl (O.assign (v := .bool _) rfl) ?_
        refine Seq.nil ?_
        refine hK159 ?_
        refine Cd.ret ?_
        exact hR _ L (Res.one (v := .bool _) rfl rfl) ⟨rfl, rfl⟩ (.cons _ (.refl _))

end Go.X
