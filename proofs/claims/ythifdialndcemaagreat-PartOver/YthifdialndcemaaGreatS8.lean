/- Part 8 of the proofs over this program: what its functions compute. -/
import Derived.Test.YthifdialndcemaaGreatProg
import Derived.Test.YthifdialndcemaaGreatS7
set_option linter.unusedVariables false
set_option linter.unusedSimpArgs false

namespace Go.X
open Go.Proofs
theorem hb_89 : hasBody Tryz.prog 89 = true := by kernel_rfl
theorem goodE_may {e : Entry} {ws : List Write} (h : goodE e ws = true) : mayE e ws = true := by
  unfold goodE at h; rw [Bool.and_eq_true] at h; exact h.1
section
variable {el : List (I64 × EV)} {hl : List (Key × I64)} {ti : I64} {e : Entry} {ws : List Write}
theorem add1 (h : (!goodE e ws) = true) : addE el hl ti e ws = 1 := if_pos (by simpa using h)
theorem add5 (h1 : (!goodE e ws) = false) (h : (alook el ti).isSome = true) : addE el hl ti e ws = 5 := by unfold addE; rw [if_neg (by simpa using h1), if_pos h]
theorem add9 (h1 : (!goodE e ws) = false) (h2 : (alook el ti).isSome = false) (h : (ws.any fun x => (alook hl x.key).isSome) = true) : addE el hl ti e ws = 9 := by
  unfold addE; rw [if_neg (by simpa using h1), if_neg (by rw [h2]; decide), if_pos h]
theorem add6 (h1 : (!goodE e ws) = false) (h2 : (alook el ti).isSome = false) (h3 : (ws.any fun x => (alook hl x.key).isSome) = false) (h : 100 ≤ el.length) : addE el hl ti e ws = 6 := by
  unfold addE; rw [if_neg (by simpa using h1), if_neg (by rw [h2]; decide), if_neg (by rw [h3]; decide), if_pos h]
theorem add0 (h1 : (!goodE e ws) = false) (h2 : (alook el ti).isSome = false) (h3 : (ws.any fun x => (alook hl x.key).isSome) = false) (h : ¬ 100 ≤ el.length) : addE el hl ti e ws = 0 := by
  unfold addE; rw [if_neg (by simpa using h1), if_neg (by rw [h2]; decide), if_neg (by rw [h3]; decide), if_neg h]
end
/-- an own slice of writes, in front of other blocks -/
def EntsAt (J : List Pt) (el : List (I64 × EV)) : Prop := ∀ id q, alook el id = some q → (∀ (c : Cx) (R : List Pt), SlAt c (J ++ R) Write_enc q.1.ws.a q.1.ws.n q.2) ∧ q.2.length ≤ 16
theorem EntsAt.put {J Ls : List Pt} {el : List (I64 × EV)} {ti : I64} {e : Entry} {ws : List Write} {av : Option Addr} {cap n : Nat} (h : EntsAt J el) (hn : n = ws.length) (h16 : ws.length ≤ 16) (ho : OwnSl 47 18 (rows Write_enc ws) n (.slice av n cap) Ls) :
    EntsAt (Ls ++ J) (aput el ti ({ e with ws := ⟨av, n, cap⟩ }, ws)) := by
  intro id q hq
  by_cases hi : id = ti
  · subst hi
    rw [alook_put_same] at hq
    obtain rfl := Option.some.inj hq
    refine ⟨fun c R => ?_, h16⟩
    rw [List.append_assoc]
    have hlt : n < 4611686018427387904 := by omega
    exact OwnSl.at_ ho hn hlt
  · rw [alook_put_ne _ hi] at hq
    refine ⟨fun c R => ?_, (h id q hq).2⟩
    rw [List.append_assoc]
    exact ((h id q hq).1 c R).app
theorem EntsAt.del {J : List Pt} {el : List (I64 × EV)} {ti : I64} (h : EntsAt J el) (hn : (el.map Prod.fst).Nodup) : EntsAt J (adel el ti) := by
  intro id q hq
  by_cases hi : id = ti
  · subst hi; rw [alook_del_same hn] at hq; cases hq
  · rw [alook_del_ne hi] at hq; exact h id q hq
theorem EntsAt.ent {J : List Pt} {el : List (I64 × EV)} (h : EntsAt J el) (ti : I64) (c : Cx) (R : List Pt) : SlAt c (J ++ R) Write_enc (entT el ti).1.ws.a (entT el ti).1.ws.n (entT el ti).2 := by
  unfold entT
  cases hq : alook el ti with
  | none => exact ⟨rfl, by decide, fun h => absurd rfl h⟩
  | some q => exact (h ti q hq).1 c R

set_option maxRecDepth 100000 in
set_option maxHeartbeats 2000000 in
theorem C_Add_own {c : Cx} {L : List Pt} {tb lm hm ck1 ck2 : Nat} {es1 es2 : Array MapEntry} {J : List Pt} {el : List (I64 × EV)} {hl : List (Key × I64)} (hM1 : MapIs i64V evV es1 ck1 el) (hM2 : MapIs keyV i64V es2 ck2 hl) (hents : EntsAt J el) (hsz : el.length ≤ 100 ∧ hl.length ≤ 200) {en : Entry} {ws : List Write} (hE : SlAt c L Write_enc en.ws.a en.ws.n ws) {ti : I64} (hid : en.id = ti.1) (hroom : (holdL hl ws ti).length ≤ 200) : Fn Tryz.prog 91 #[.pointer (some ⟨tb, 0, none⟩), .agg (Entry_enc en)] c ((tb, .cells #[.map (some lm), .map (some hm)] 249 (0, 0)) :: (lm, .map es1 ck1) :: (hm, .map es2 ck2) :: (J ++ L)) (fun v L' => v = .int .i64 (addE el hl ti en ws) ∧ ∃ Ls', L' = Ls' ++ L ∧ (addE el hl ti en ws = 0 → ∃ sv, TbOwn tb (aput el ti ({ en with ws := sv }, ws)) (holdL hl ws ti) Ls') ∧ (¬ addE el hl ti en ws = 0 → TbOwn tb el hl Ls')) := by
  have hT := TbOwn.at_ (c := c) (R := L) (tb := tb) (Ls := (tb, .cells #[.map (some lm), .map (some hm)] 249 (0, 0)) :: (lm, .map es1 ck1) :: (hm, .map es2 ck2) :: J) ⟨⟨lm, es1, ck1, hm, es2, ck2, _, rfl, hM1, hM2, hents⟩, hsz⟩
  refine Fn.enter Tryz.func91 rfl 55 rfl rfl (fun R hR => ?_)
  refine Cd.seq (fun K1 hK1 => ?_)
  refine Cd.region [0, 1] rfl ?_
  refine Seq.op at0 rfl (Op.new rfl (O.box (v := .agg _) rfl (cs := (Entry_enc en)) rfl) ?_)
  intro b2 hb2
  refine Seq.rd0 at1 rfl rfl (O.assign (v := .int .i64 _) rfl) ?_
  refine Seq.nil ?_
  refine hK1 ?_
  refine Cd.seq (fun K3 hK3 => ?_)
  refine Cd.seq (fun K4 hK4 => ?_)
  refine Cd.region [0, 1, 2] rfl ?_
  refine Seq.rd1 at0 rfl rfl (O.loadA kd_27 rfl (Nat.le_of_ble_eq_true rfl) (Entry_all _)) Rd.head ?_
  refine Seq.op at1 rfl (Op.callF rfl hb_89 (C_prep_Good hE.app.cons.cons.cons.cons) rfl ?_)
  rintro _ _ ⟨rfl, rfl⟩
  refine Seq.rd0 at2 rfl rfl (O.not rfl) ?_
  refine Seq.nil ?_
  refine hK4 ?_
  refine Cd.cond (!(goodE en ws)) rfl (fun t5 => ?_) (fun t5 => ?_)
  · skip
    refine Cd.seq (fun K6 hK6 => ?_)
    refine Cd.region [0] rfl ?_
    refine Seq.rd0 at0 rfl rfl (O.assign (v := .int .i64 _) rfl) ?_
    refine Seq.nil ?_
    refine hK6 ?_
    refine Cd.ret ?_
    have had : addE el hl ti en ws = 1 := add1 (by assumption)
    have hto : TbOwn tb el hl ((tb, .cells #[.map (some lm), .map (some hm)] 249 (0, 0)) :: (lm, .map es1 ck1) :: (hm, .map es2 ck2) :: J) := ⟨⟨lm, es1, ck1, hm, es2, ck2, _, rfl, hM1, hM2, hents⟩, hsz⟩
    exact hR _ _ (Res.one (v := .int .i64 _) rfl rfl) ⟨by rw [had], _, rfl, fun h => absurd (had.symm.trans h) (by decide), fun _ => hto⟩ (.cons _ (.refl _))
  · skip
    refine Cd.skip ?_
    refine hK3 ?_
    refine Cd.seq (fun K7 hK7 => ?_)
    refine Cd.seq (fun K8 hK8 => ?_)
    refine Cd.draw 13 rfl po ?_
    refine Any.rd0 0 at0 rfl rfl (O.move (v := .pointer _) rfl) (by kernel_rfl) (by kernel_rfl) (by kernel_rfl) ?_
    refine Any.rd0 1 at1 rfl rfl (O.nilP rfl) (by kernel_rfl) (by kernel_rfl) (by kernel_rfl) ?_
    refine Any.rd0 2 at2 rfl rfl (O.field fo_249_0 rfl) (by kernel_rfl) (by kernel_rfl) (by kernel_rfl) ?_
    refine Any.rd1 3 at3 rfl rfl (O.load kd_246 rfl r2_0) Rd.head.cons (by kernel_rfl) (by kernel_rfl) (by kernel_rfl) ?_
    refine Any.rd0 4 at4 rfl rfl (O.field fo_27_0 rfl) (by kernel_rfl) (by kernel_rfl) (by kernel_rfl) ?_
    refine Any.rd1 5 at5 rfl rfl (O.load kd_2 rfl (Entry_id _)) Rd.head (by kernel_rfl) (by kernel_rfl) (by kernel_rfl) ?_
    refine Any.rd1 6 at6 rfl rfl (O.lookD (ok := true) (encV := evV) (a := ti) evz mp_246 kk_i64 hM1 zo_27 rfl (by exact congrArg (Value.int .i64) hid)) Rd.head.cons.cons (by kernel_rfl) (by kernel_rfl) (by kernel_rfl) ?_
    refine Any.rd0 7 at7 rfl rfl (O.move (v := .tuple _) rfl) (by kernel_rfl) (by kernel_rfl) (by kernel_rfl) ?_
    refine Any.rd0 8 at8 rfl rfl (O.ext rfl r2_0) (by kernel_rfl) (by kernel_rfl) (by kernel_rfl) ?_
    refine Any.rd0 9 at9 rfl rfl (O.ext rfl r2_1) (by kernel_rfl) (by kernel_rfl) (by kernel_rfl) ?_
    refine Any.one 10 at10 rfl (by kernel_rfl) ⟨⟨⟨trivial, Rd.head.cons⟩, Rd.head⟩, Rd.head.cons.cons⟩ ?_
    refine Op.new rfl (O.alloc zo_27 (cs := (Entry_enc Entry.zero)) rfl) ?_
    intro b9 hb9
    refine Any.toK ?_
    refine Any.one 11 at11 rfl (by kernel_rfl) ⟨⟨⟨trivial, Rd.head.cons.cons⟩, Rd.head.cons⟩, Rd.head.cons.cons.cons⟩ ?_
    refine Op.set0 rfl (O.store kd_27 rfl (v := .agg _) rfl (Entry_size _) (Entry_room (Entry_size _)) (Entry_one _) (Entry_put _ (Entry_size _))) ?_
    refine Any.toK ?_
    refine Any.rd0 12 at12 rfl rfl (O.assign (v := .bool _) rfl) (by kernel_rfl) (by kernel_rfl) (by kernel_rfl) ?_
    refine Any.done (by kernel_rfl) ⟨⟨⟨trivial, Rd.head.cons.cons⟩, Rd.head.cons⟩, Rd.head.cons.cons.cons⟩ ?_
    refine hK8 ?_
    refine Cd.seq (fun K10 hK10 => ?_)
    refine Cd.region [0] rfl ?_
    refine Seq.rd0 at0 rfl rfl (O.move (v := .bool _) rfl) ?_
    refine Seq.nil ?_
    refine hK10 ?_
    refine Cd.cond ((alook el ti).isSome) rfl (fun t11 => ?_) (fun t11 => ?_)
    · skip
      refine Cd.seq (fun K12 hK12 => ?_)
      refine Cd.region [0] rfl ?_
      refine Seq.rd0 at0 rfl rfl (O.assign (v := .int .i64 _) rfl) ?_
      refine Seq.nil ?_
      refine hK12 ?_
      refine Cd.ret ?_
      have had : addE el hl ti en ws = 5 := add5 (by assumption) (by assumption)
      have hto : TbOwn tb el hl ((tb, .cells #[.map (some lm), .map (some hm)] 249 (0, 0)) :: (lm, .map es1 ck1) :: (hm, .map es2 ck2) :: J) := ⟨⟨lm, es1, ck1, hm, es2, ck2, _, rfl, hM1, hM2, hents⟩, hsz⟩
      exact hR _ _ (Res.one (v := .int .i64 _) rfl rfl) ⟨by rw [had], _, rfl, fun h => absurd (had.symm.trans h) (by decide), fun _ => hto⟩ (.cons _ (.cons _ (.refl _)))
    · skip
      refine Cd.skip ?_
      refine hK7 ?_
      refine Cd.seq (fun K13 hK13 => ?_)
      refine Cd.block ?_
      refine Cd.seq (fun K14 hK14 => ?_)
      refine Cd.region [0, 1, 2, 3, 4] rfl ?_
      refine Seq.rd0 at0 rfl rfl (O.move (v := .pointer _) rfl) ?_
      refine Seq.rd0 at1 rfl rfl (O.field fo_27_3 rfl) ?_
      refine Seq.rd1 at2 rfl rfl (O.load kd_25 rfl (Entry_ws _)) Rd.head.cons ?_
      refine Seq.op at3 rfl (Op.callF rfl hb_166 (C_Held (hT.cons.cons) (hE.app.cons.cons.cons.cons.cons)) rfl ?_)
      rintro _ _ ⟨rfl, rfl⟩
      refine Seq.rd0 at4 rfl rfl (O.assign (v := .bool _) rfl) ?_
      refine Seq.nil ?_
      refine hK14 ?_
      refine Cd.cond ((ws.any fun x => (alook hl x.key).isSome)) rfl (fun t15 => ?_) (fun t15 => ?_)
      · skip
        refine Cd.seq (fun K16 hK16 => ?_)
        refine Cd.region [0] rfl ?_
        refine Seq.rd0 at0 rfl rfl (O.assign (v := .int .i64 _) rfl) ?_
        refine Seq.nil ?_
        refine hK16 ?_
        refine Cd.ret ?_
        have had : addE el hl ti en ws = 9 := add9 (by assumption) (by assumption) (by assumption)
        have hto : TbOwn tb el hl ((tb, .cells #[.map (some lm), .map (some hm)] 249 (0, 0)) :: (lm, .map es1 ck1) :: (hm, .map es2 ck2) :: J) := ⟨⟨lm, es1, ck1, hm, es2, ck2, _, rfl, hM1, hM2, hents⟩, hsz⟩
        exact hR _ _ (Res.one (v := .int .i64 _) rfl rfl) ⟨by rw [had], _, rfl, fun h => absurd (had.symm.trans h) (by decide), fun _ => hto⟩ (.cons _ (.cons _ (.refl _)))
      · skip
        refine Cd.seq (fun K17 hK17 => ?_)
        refine Cd.region [0, 1, 2] rfl ?_
        refine Seq.rd0 at0 rfl rfl (O.move (v := .pointer _) rfl) ?_
        refine Seq.op at1 rfl (Op.callF rfl hb_167 (C_prep_Full (hT.cons.cons)) rfl ?_)
        rintro _ _ ⟨rfl, rfl⟩
        refine Seq.rd0 at2 rfl rfl (O.assign (v := .bool _) rfl) ?_
        refine Seq.nil ?_
        refine hK17 ?_
        refine Cd.if (100 ≤ el.length) rfl (fun t18 => ?_) (fun t18 => ?_)
        · skip
          refine Cd.seq (fun K19 hK19 => ?_)
          refine Cd.region [0] rfl ?_
          refine Seq.rd0 at0 rfl rfl (O.assign (v := .int .i64 _) rfl) ?_
          refine Seq.nil ?_
          refine hK19 ?_
          refine Cd.ret ?_
          have had : addE el hl ti en ws = 6 := add6 (by assumption) (by assumption) (by assumption) (by assumption)
          have hto : TbOwn tb el hl ((tb, .cells #[.map (some lm), .map (some hm)] 249 (0, 0)) :: (lm, .map es1 ck1) :: (hm, .map es2 ck2) :: J) := ⟨⟨lm, es1, ck1, hm, es2, ck2, _, rfl, hM1, hM2, hents⟩, hsz⟩
          exact hR _ _ (Res.one (v := .int .i64 _) rfl rfl) ⟨by rw [had], _, rfl, fun h => absurd (had.symm.trans h) (by decide), fun _ => hto⟩ (.cons _ (.cons _ (.refl _)))
        · skip
          refine Cd.skip ?_
          refine hK13 ?_
          refine Cd.seq (fun K20 hK20 => ?_)
          refine Cd.draw 9 rfl po ?_
          refine Any.rd0 0 at0 rfl rfl (O.move (v := .pointer _) rfl) (by kernel_rfl) (by kernel_rfl) (by kernel_rfl) ?_
          refine Any.rd0 1 at1 rfl rfl (O.nilP rfl) (by kernel_rfl) (by kernel_rfl) (by kernel_rfl) ?_
          refine Any.rd0 2 at2 rfl rfl (O.field fo_249_0 rfl) (by kernel_rfl) (by kernel_rfl) (by kernel_rfl) ?_
          refine Any.rd1 3 at3 rfl rfl (O.load kd_246 rfl r2_0) Rd.head.cons.cons (by kernel_rfl) (by kernel_rfl) (by kernel_rfl) ?_
          refine Any.rd0 4 at4 rfl rfl (O.field fo_27_0 rfl) (by kernel_rfl) (by kernel_rfl) (by kernel_rfl) ?_
          refine Any.rd1 5 at5 rfl rfl (O.load kd_2 rfl (Entry_id _)) Rd.head.cons (by kernel_rfl) (by kernel_rfl) (by kernel_rfl) ?_
          refine Any.rd1 6 at6 rfl rfl (O.loadA kd_27 rfl (Nat.le_of_ble_eq_true rfl) (Entry_all _)) Rd.head.cons (by kernel_rfl) (by kernel_rfl) (by kernel_rfl) ?_
          refine Any.one 7 at7 rfl (by kernel_rfl) ⟨⟨⟨trivial, Rd.head.cons.cons⟩, Rd.head.cons⟩, Rd.head.cons⟩ ?_
          have hg : goodE en ws = true := by have h9 : (!goodE en ws) = false := (by assumption); simpa using h9
          have h16 : ws.length ≤ 16 := mayE_len (goodE_may hg)
          have hen := hE.len
          refine Op.callF rfl hb_168 (C_copied (en := en) (hE.app.cons.cons.cons.cons.cons) (by omega)) rfl ?_
          rintro _ _ ⟨av, cap, Lc, rfl, hoc, rfl⟩
          refine Ent.perm ?_ (bring (Ls := Lc) (pre := [(b9, _), (b2, _), (tb, _), (lm, _), (hm, _)]) (R := (J ++ (L)))).symm
          refine Any.toK ?_
          refine Any.one 8 at8 rfl (by kernel_rfl) ⟨⟨⟨trivial, Rd.head.cons.cons⟩, Rd.head.cons⟩, Rd.head.cons⟩ ?_
          refine Op.gen rfl (O.mapSet (encV := evV) (u := ({ en with ws := ⟨av, en.ws.n, cap⟩ }, ws)) (a := ti) mp_246 kk_i64 hM1 rfl (by exact congrArg (Value.int .i64) hid) rfl (A := [(b9, _), (b2, _), (tb, _)]) rfl) ?_
          rintro _ _ ⟨rfl, es3, ck3, hM3, rfl⟩
          refine Any.toK ?_
          refine Any.done (by kernel_rfl) ⟨⟨⟨trivial, Rd.head.cons.cons⟩, Rd.head.cons⟩, Rd.head.cons⟩ ?_
          refine hK20 ?_
          refine Cd.seq (fun K21 hK21 => ?_)
          refine Cd.seq (fun K22 hK22 => ?_)
          refine Cd.region [0, 1, 2, 3] rfl ?_
          refine Seq.rd0 at0 rfl rfl (O.field fo_27_3 rfl) ?_
          refine Seq.rd1 at1 rfl rfl (O.load kd_25 rfl (Entry_ws _)) Rd.head.cons ?_
          refine Seq.rd0 at2 rfl rfl (O.lenS ds_25 rfl) ?_
          refine Seq.rd0 at3 rfl rfl (O.move (v := .int .i64 _) rfl) ?_
          refine Seq.nil ?_
          refine hK22 ?_
          refine Cd.block ?_
          refine Cd.loop (fun m23 e24 L25 => ∃ i : Nat, ∃ es4 : Array MapEntry, ∃ ck4 : Nat, m23 = ws.length - i ∧ e24 0 = .pointer (some ⟨tb, 0, none⟩) ∧ e24 3 = .pointer (some ⟨b2, 0, none⟩) ∧ e24 4 = .int .i64 0 ∧ e24 40 = .slice en.ws.a en.ws.n en.ws.c ∧ e24 41 = .int .i64 (en.ws.n : Int) ∧ e24 42 = .int .i64 (i : Int) ∧ L25 = (b9, .cells (Entry_enc (entT el ti).1) 27 (0, 0)) :: (b2, .cells (Entry_enc en) 27 (0, 0)) :: (tb, .cells #[.map (some lm), .map (some hm)] 249 (0, 0)) :: (lm, .map es3 ck3) :: (hm, .map es4 ck4) :: (Lc ++ ((J ++ (L)))) ∧ i ≤ ws.length ∧ MapIs keyV i64V es4 ck4 (holdL hl (ws.take i) ti)) _ ⟨0, es2, ck2, rfl, rfl, rfl, rfl, rfl, rfl, rfl, rfl, Nat.zero_le _, hM2⟩ ?_
          rintro _ e24 _ ⟨i, es4, ck4, rfl, s26, s27, s28, s29, s30, s31, rfl, hi, hM4⟩ K32 hK32
          refine Cd.seq (fun K33 hK33 => ?_)
          refine Cd.region [0] rfl ?_
          refine Seq.rd0 at0 rfl rfl (O.lss (by exact s31) (by exact s30)) ?_
          refine Seq.nil ?_
          refine hK33 ?_
          refine Cd.seq (fun K34 hK34 => ?_)
          refine Cd.if ((i : Int) < (en.ws.n : Int)) rfl (fun t35 => ?_) (fun t35 => ?_)
          · skip
            refine Cd.skip ?_
            refine hK34 ?_
            refine Cd.seq (fun K36 hK36 => ?_)
            refine Cd.block ?_
            refine Cd.seq (fun K37 hK37 => ?_)
            refine Cd.region [0, 1, 2, 3] rfl ?_
            have hlt38 : i < ws.length := by omega
            obtain ⟨pre38, sp38, el38, fz38, hav38, hrd38⟩ := hE.at_ hlt38
            refine Seq.rd0 at0 rfl rfl (O.indexG sl_25 (by exact s29) hav38 (by exact s31) (by omega) (by omega)) ?_
            refine Seq.rd1 at1 rfl rfl (O.loadA kd_47 rfl (rowRoomP Write_size (getN hlt38)) (rowAtP Write_size (getN hlt38))) hrd38.app.app.cons.cons.cons.cons.cons ?_
            refine Seq.op at2 rfl (Op.new rfl (O.alloc zo_47 (cs := (Write_enc Write.zero)) rfl) ?_)
            intro b39 hb39
            refine Seq.op at3 rfl (Op.set0 rfl (O.store kd_47 rfl (v := .agg _) rfl (Write_size _) (Write_room (Write_size _)) (Write_one _) (Write_put _ (Write_size _))) ?_)
            refine Seq.nil ?_
            refine hK37 ?_
            refine Cd.draw 9 rfl po ?_
            refine Any.rd0 0 at0 rfl rfl (O.move (v := .pointer _) (by exact s26)) (by kernel_rfl) (by kernel_rfl) (by kernel_rfl) ?_
            refine Any.rd0 1 at1 rfl rfl (O.nilP rfl) (by kernel_rfl) (by kernel_rfl) (by kernel_rfl) ?_
            refine Any.rd0 2 at2 rfl rfl (O.field fo_249_1 rfl) (by kernel_rfl) (by kernel_rfl) (by kernel_rfl) ?_
            refine Any.rd1 3 at3 rfl rfl (O.load kd_247 rfl r2_1) Rd.head.cons.cons.cons (by kernel_rfl) (by kernel_rfl) (by kernel_rfl) ?_
            refine Any.rd0 4 at4 rfl rfl (O.field fo_47_0 rfl) (by kernel_rfl) (by kernel_rfl) (by kernel_rfl) ?_
            refine Any.rd1 5 at5 rfl rfl (O.loadA kd_45 rfl (Nat.le_of_ble_eq_true rfl) (Write_key _)) Rd.head (by kernel_rfl) (by kernel_rfl) (by kernel_rfl) ?_
            refine Any.rd0 6 at6 rfl rfl (O.field fo_27_0 (by exact s27)) (by kernel_rfl) (by kernel_rfl) (by kernel_rfl) ?_
            refine Any.rd1 7 at7 rfl rfl (O.load kd_2 rfl (Entry_id _)) Rd.head.cons.cons (by kernel_rfl) (by kernel_rfl) (by kernel_rfl) ?_
            refine Any.one 8 at8 rfl (by kernel_rfl) ⟨⟨⟨trivial, Rd.head.cons.cons.cons⟩, Rd.head⟩, Rd.head.cons.cons⟩ ?_
            refine Op.gen rfl (O.mapSet (encV := i64V) (u := ti) mp_247 kk_key hM4 rfl (by exact rfl) (by exact congrArg (Value.int .i64) hid) (A := [(b39, _), (b9, _), (b2, _), (tb, _), (lm, _)]) rfl) ?_
            rintro _ _ ⟨rfl, es5, ck5, hM5, rfl⟩
            refine Any.toK ?_
            refine Any.done (by kernel_rfl) ⟨⟨⟨trivial, Rd.head.cons.cons.cons⟩, Rd.head⟩, Rd.head.cons.cons⟩ ?_
            refine hK36 ?_
            refine Cd.region [0, 1] rfl ?_
            refine Seq.rd0 at0 rfl rfl (O.add (by exact s31) rfl (by omega) (by omega)) ?_
            refine Seq.rd0 at1 rfl rfl (O.move (v := .int .i64 _) rfl) ?_
            refine Seq.nil ?_
            refine Ent.drop ?_
            exact hK32 _ (by omega) ⟨i + 1, es5, ck5, rfl, (by exact s26), (by exact s27), (by exact s28), (by exact s29), (by exact s30), rfl, rfl, by omega, by rw [holdL_snoc hlt38]; exact hM5⟩
          · skip
            refine Cd.exit ?_
            refine hK21 ?_
            refine Cd.seq (fun K40 hK40 => ?_)
            refine Cd.region [0] rfl ?_
            refine Seq.rd0 at0 rfl rfl (O.assign (v := .int .i64 _) rfl) ?_
            refine Seq.nil ?_
            refine hK40 ?_
            refine Cd.ret ?_
            have had : addE el hl ti en ws = 0 := add0 (by assumption) (by assumption) (by assumption) (by assumption)
            have hwi : i = ws.length := by omega
            rw [hwi, List.take_length] at hM4
            have hto : TbOwn tb (aput el ti ({ en with ws := ⟨av, en.ws.n, cap⟩ }, ws)) (holdL hl ws ti) ((tb, .cells #[.map (some lm), .map (some hm)] 249 (0, 0)) :: (lm, .map es3 ck3) :: (hm, .map es4 ck4) :: (Lc ++ J)) := ⟨⟨lm, es3, ck3, hm, es4, ck4, _, rfl, hM3, hM4, hents.put hen h16 hoc⟩, by rw [aput_length]; split <;> omega, hroom⟩
            exact hR _ ((tb, .cells #[.map (some lm), .map (some hm)] 249 (0, 0)) :: (lm, .map es3 ck3) :: (hm, .map es4 ck4) :: (Lc ++ (J ++ L))) (Res.one (v := .int .i64 _) rfl rfl) ⟨by rw [had], (tb, .cells #[.map (some lm), .map (some hm)] 249 (0, 0)) :: (lm, .map es3 ck3) :: (hm, .map es4 ck4) :: (Lc ++ J), by simp, fun _ => ⟨_, hto⟩, fun h => absurd had h⟩ (.cons _ (.cons _ (.refl _)))

set_option maxRecDepth 100000 in
set_option maxHeartbeats 2000000 in
theorem C_Drop_own {c : Cx} {L : List Pt} {tb lm hm ck1 ck2 : Nat} {es1 es2 : Array MapEntry} {J : List Pt} {el : List (I64 × EV)} {hl : List (Key × I64)} (hM1 : MapIs i64V evV es1 ck1 el) (hM2 : MapIs keyV i64V es2 ck2 hl) (hents : EntsAt J el) (hsz : el.length ≤ 100 ∧ hl.length ≤ 200) {ti : I64} : Fn Tryz.prog 93 #[.pointer (some ⟨tb, 0, none⟩), .int .i64 ti.1] c ((tb, .cells #[.map (some lm), .map (some hm)] 249 (0, 0)) :: (lm, .map es1 ck1) :: (hm, .map es2 ck2) :: (J ++ L)) (fun v L' => v = .tuple #[.agg (Entry_enc (entT el ti).1), .bool (alook el ti).isSome] ∧ ∃ Ls', L' = Ls' ++ L ∧ TbOwn tb (adel el ti) (dropL hl (entT el ti).2) Ls' ∧ (∀ (c : Cx) (R : List Pt), SlAt c (Ls' ++ R) Write_enc (entT el ti).1.ws.a (entT el ti).1.ws.n (entT el ti).2)) := by
  have hT := TbOwn.at_ (c := c) (R := L) (tb := tb) (Ls := (tb, .cells #[.map (some lm), .map (some hm)] 249 (0, 0)) :: (lm, .map es1 ck1) :: (hm, .map es2 ck2) :: J) ⟨⟨lm, es1, ck1, hm, es2, ck2, _, rfl, hM1, hM2, hents⟩, hsz⟩
  have hEt : SlAt c (J ++ L) Write_enc (entT el ti).1.ws.a (entT el ti).1.ws.n (entT el ti).2 := hents.ent ti c L
  have hEl := hEt.len
  have hEtt := hEt.lt
  refine Fn.enter Tryz.func93 rfl 40 rfl rfl (fun R hR => ?_)
  refine Cd.seq (fun K1 hK1 => ?_)
  refine Cd.region [0, 1] rfl ?_
  refine Seq.op at0 rfl (Op.new rfl (O.alloc zo_27 (cs := (Entry_enc Entry.zero)) rfl) ?_)
  intro b2 hb2
  refine Seq.rd0 at1 rfl rfl (O.assign (v := .bool _) rfl) ?_
  refine Seq.nil ?_
  refine hK1 ?_
  refine Cd.seq (fun K3 hK3 => ?_)
  refine Cd.region [0, 1, 2, 3, 4, 5, 6, 7, 8, 9, 10, 11] rfl ?_
  refine Seq.rd0 at0 rfl rfl (O.move (v := .pointer _) rfl) ?_
  refine Seq.rd0 at1 rfl rfl (O.nilP rfl) ?_
  refine Seq.rd0 at2 rfl rfl (O.field fo_249_0 rfl) ?_
  refine Seq.rd1 at3 rfl rfl (O.load kd_246 rfl r2_0) Rd.head.cons ?_
  refine Seq.rd0 at4 rfl rfl (O.move (v := .int .i64 _) rfl) ?_
  refine Seq.rd1 at5 rfl rfl (O.lookD (ok := true) (encV := evV) (a := ti) evz mp_246 kk_i64 hM1 zo_27 rfl (by exact rfl)) Rd.head.cons.cons ?_
  refine Seq.rd0 at6 rfl rfl (O.move (v := .tuple _) rfl) ?_
  refine Seq.rd0 at7 rfl rfl (O.ext rfl r2_0) ?_
  refine Seq.rd0 at8 rfl rfl (O.ext rfl r2_1) ?_
  refine Seq.op at9 rfl (Op.new rfl (O.alloc zo_27 (cs := (Entry_enc Entry.zero)) rfl) ?_)
  intro b4 hb4
  refine Seq.op at10 rfl (Op.set0 rfl (O.store kd_27 rfl (v := .agg _) rfl (Entry_size _) (Entry_room (Entry_size _)) (Entry_one _) (Entry_put _ (Entry_size _))) ?_)
  refine Seq.rd0 at11 rfl rfl (O.assign (v := .bool _) rfl) ?_
  refine Seq.nil ?_
  refine hK3 ?_
  refine Cd.seq (fun K5 hK5 => ?_)
  refine Cd.seq (fun K6 hK6 => ?_)
  refine Cd.region [0, 1, 2, 3] rfl ?_
  refine Seq.rd0 at0 rfl rfl (O.field fo_27_3 rfl) ?_
  refine Seq.rd1 at1 rfl rfl (O.load kd_25 rfl (Entry_ws _)) Rd.head ?_
  refine Seq.rd0 at2 rfl rfl (O.lenS ds_25 rfl) ?_
  refine Seq.rd0 at3 rfl rfl (O.move (v := .int .i64 _) rfl) ?_
  refine Seq.nil ?_
  refine hK6 ?_
  refine Cd.block ?_
  refine Cd.loop (fun m7 e8 L9 => ∃ i : Nat, ∃ es4 : Array MapEntry, m7 = (entT el ti).2.length - i ∧ e8 0 = .pointer (some ⟨tb, 0, none⟩) ∧ e8 1 = .int .i64 ti.1 ∧ e8 4 = .pointer (some ⟨b2, 0, none⟩) ∧ e8 5 = .bool false ∧ e8 6 = .pointer (some ⟨b4, 0, none⟩) ∧ e8 7 = .bool ((alook el ti).isSome) ∧ e8 20 = .slice ((entT el ti).1.ws.a) ((entT el ti).1.ws.n) ((entT el ti).1.ws.c) ∧ e8 21 = .int .i64 ((entT el ti).1.ws.n : Int) ∧ e8 22 = .int .i64 (i : Int) ∧ L9 = (b4, .cells (Entry_enc (entT el ti).1) 27 (0, 0)) :: (b2, .cells (Entry_enc Entry.zero) 27 (0, 0)) :: (tb, .cells #[.map (some lm), .map (some hm)] 249 (0, 0)) :: (lm, .map es1 ck1) :: (hm, .map es4 ck2) :: (J ++ (L)) ∧ i ≤ (entT el ti).2.length ∧ MapIs keyV i64V es4 ck2 (dropL hl ((entT el ti).2.take i))) _ ⟨0, es2, rfl, rfl, rfl, rfl, rfl, rfl, rfl, rfl, rfl, rfl, rfl, Nat.zero_le _, hM2⟩ ?_
  rintro _ e8 _ ⟨i, es4, rfl, s10, s11, s12, s13, s14, s15, s16, s17, s18, rfl, hi, hM4⟩ K19 hK19
  refine Cd.seq (fun K20 hK20 => ?_)
  refine Cd.region [0] rfl ?_
  refine Seq.rd0 at0 rfl rfl (O.lss (by exact s18) (by exact s17)) ?_
  refine Seq.nil ?_
  refine hK20 ?_
  refine Cd.seq (fun K21 hK21 => ?_)
  refine Cd.if ((i : Int) < ((entT el ti).1.ws.n : Int)) rfl (fun t22 => ?_) (fun t22 => ?_)
  · skip
    refine Cd.skip ?_
    refine hK21 ?_
    refine Cd.seq (fun K23 hK23 => ?_)
    refine Cd.block ?_
    refine Cd.seq (fun K24 hK24 => ?_)
    refine Cd.region [0, 1, 2, 3] rfl ?_
    have hlt25 : i < (entT el ti).2.length := by omega
    obtain ⟨pre25, sp25, el25, fz25, hav25, hrd25⟩ := hEt.at_ hlt25
    refine Seq.rd0 at0 rfl rfl (O.indexG sl_25 (by exact s16) hav25 (by exact s18) (by omega) (by omega)) ?_
    refine Seq.rd1 at1 rfl rfl (O.loadA kd_47 rfl (rowRoomP Write_size (getN hlt25)) (rowAtP Write_size (getN hlt25))) hrd25.cons.cons.cons.cons.cons ?_
    refine Seq.op at2 rfl (Op.new rfl (O.alloc zo_47 (cs := (Write_enc Write.zero)) rfl) ?_)
    intro b26 hb26
    refine Seq.op at3 rfl (Op.set0 rfl (O.store kd_47 rfl (v := .agg _) rfl (Write_size _) (Write_room (Write_size _)) (Write_one _) (Write_put _ (Write_size _))) ?_)
    refine Seq.nil ?_
    refine hK24 ?_
    refine Cd.draw 7 rfl po ?_
    refine Any.rd0 0 at0 rfl rfl (O.move (v := .pointer _) (by exact s10)) (by kernel_rfl) (by kernel_rfl) (by kernel_rfl) ?_
    refine Any.rd0 1 at1 rfl rfl (O.nilP rfl) (by kernel_rfl) (by kernel_rfl) (by kernel_rfl) ?_
    refine Any.rd0 2 at2 rfl rfl (O.field fo_249_1 rfl) (by kernel_rfl) (by kernel_rfl) (by kernel_rfl) ?_
    refine Any.rd1 3 at3 rfl rfl (O.load kd_247 rfl r2_1) Rd.head.cons.cons.cons (by kernel_rfl) (by kernel_rfl) (by kernel_rfl) ?_
    refine Any.rd0 4 at4 rfl rfl (O.field fo_47_0 rfl) (by kernel_rfl) (by kernel_rfl) (by kernel_rfl) ?_
    refine Any.rd1 5 at5 rfl rfl (O.loadA kd_45 rfl (Nat.le_of_ble_eq_true rfl) (Write_key _)) Rd.head (by kernel_rfl) (by kernel_rfl) (by kernel_rfl) ?_
    refine Any.one 6 at6 rfl (by kernel_rfl) ⟨⟨trivial, Rd.head.cons.cons.cons⟩, Rd.head⟩ ?_
    refine Op.gen rfl (O.mapDel (encV := i64V) mp_247 kk_key hM4 rfl (by exact rfl) (A := [(b26, _), (b4, _), (b2, _), (tb, _), (lm, _)]) rfl) ?_
    rintro _ _ ⟨rfl, es5, hM5, rfl⟩
    refine Any.toK ?_
    refine Any.done (by kernel_rfl) ⟨⟨trivial, Rd.head.cons.cons.cons⟩, Rd.head⟩ ?_
    refine hK23 ?_
    refine Cd.region [0, 1] rfl ?_
    refine Seq.rd0 at0 rfl rfl (O.add (by exact s18) rfl (by omega) (by omega)) ?_
    refine Seq.rd0 at1 rfl rfl (O.move (v := .int .i64 _) rfl) ?_
    refine Seq.nil ?_
    refine Ent.drop ?_
    exact hK19 _ (by omega) ⟨i + 1, es5, rfl, (by exact s10), (by exact s11), (by exact s12), (by exact s13), (by exact s14), (by exact s15), (by exact s16), (by exact s17), rfl, rfl, by omega, by rw [dropL_snoc hlt25]; exact hM5⟩
  · skip
    refine Cd.exit ?_
    refine hK5 ?_
    refine Cd.seq (fun K27 hK27 => ?_)
    refine Cd.region [0, 1, 2, 3, 4, 5] rfl ?_
    refine Seq.rd0 at0 rfl rfl (O.move (v := .pointer _) (by exact s10)) ?_
    refine Seq.rd0 at1 rfl rfl (O.nilP rfl) ?_
    refine Seq.rd0 at2 rfl rfl (O.field fo_249_0 rfl) ?_
    refine Seq.rd1 at3 rfl rfl (O.load kd_246 rfl r2_0) Rd.head.cons.cons ?_
    refine Seq.rd0 at4 rfl rfl (O.move (v := .int .i64 _) (by exact s11)) ?_
    refine Seq.op at5 rfl (Op.gen rfl (O.mapDel (encV := evV) (a := ti) mp_246 kk_i64 hM1 rfl (by exact rfl) (A := [(b4, _), (b2, _), (tb, _)]) rfl) ?_)
    rintro _ _ ⟨rfl, es6, hM6, rfl⟩
    refine Seq.nil ?_
    refine hK27 ?_
    refine Cd.seq (fun K28 hK28 => ?_)
    refine Cd.region [0, 1, 2, 3] rfl ?_
    refine Seq.rd1 at0 rfl rfl (O.loadA kd_27 (by exact s14) (Nat.le_of_ble_eq_true rfl) (Entry_all _)) Rd.head ?_
    refine Seq.rd0 at1 rfl rfl (O.move (v := .bool _) (by exact s15)) ?_
    refine Seq.op at2 rfl (Op.set1 rfl (O.store kd_27 (by exact s12) (v := .agg _) rfl (Entry_size _) (Entry_room (Entry_size _)) (Entry_one _) (Entry_put _ (Entry_size _))) ?_)
    refine Seq.rd0 at3 rfl rfl (O.assign (v := .bool _) rfl) ?_
    refine Seq.nil ?_
    refine hK28 ?_
    refine Cd.ret ?_
    have hwi : i = (entT el ti).2.length := by omega
    rw [hwi, List.take_length] at hM4
    have h1 := (adel_sub ti el).length_le
    have h2 := (dropL_sub (ws := (entT el ti).2) (hl := hl)).length_le
    have hto : TbOwn tb (adel el ti) (dropL hl (entT el ti).2) ((tb, .cells #[.map (some lm), .map (some hm)] 249 (0, 0)) :: (lm, .map es6 ck1) :: (hm, .map es4 ck2) :: J) := ⟨⟨lm, es6, ck1, hm, es4, ck2, _, rfl, hM6, hM4, hents.del hM1.keys⟩, by omega, by omega⟩
    exact hR _ _ (Res.cell2 (v := .bool _) rfl kd_27 (by exact s12) rfl Rd.head.cons rfl) ⟨rfl, ((tb, .cells #[.map (some lm), .map (some hm)] 249 (0, 0)) :: (lm, .map es6 ck1) :: (hm, .map es4 ck2) :: J), rfl, hto, fun c R => (hents.ent ti c R).cons.cons.cons⟩ (.cons _ (.cons _ (.refl _)))

theorem C_Add {c : Cx} {R Ls : List Pt} {tb : Nat} {el : List (I64 × EV)} {hl : List (Key × I64)} (hT : TbOwn tb el hl Ls) {en : Entry} {ws : List Write} (hE : SlAt c R Write_enc en.ws.a en.ws.n ws) {ti : I64} (hid : en.id = ti.1) (hroom : (holdL hl ws ti).length ≤ 200) :
    Fn Tryz.prog 91 #[.pointer (some ⟨tb, 0, none⟩), .agg (Entry_enc en)] c (Ls ++ R) (fun v L' => v = .int .i64 (addE el hl ti en ws) ∧ ∃ Ls', L' = Ls' ++ R ∧ (addE el hl ti en ws = 0 → ∃ sv, TbOwn tb (aput el ti ({ en with ws := sv }, ws)) (holdL hl ws ti) Ls') ∧ (¬ addE el hl ti en ws = 0 → TbOwn tb el hl Ls')) := by
  obtain ⟨⟨lm, es1, ck1, hm, es2, ck2, J, rfl, h1, h2, h3⟩, h4⟩ := hT
  exact C_Add_own (L := R) h1 h2 h3 h4 hE hid hroom
theorem C_Drop {c : Cx} {R Ls : List Pt} {tb : Nat} {el : List (I64 × EV)} {hl : List (Key × I64)} (hT : TbOwn tb el hl Ls) {ti : I64} :
    Fn Tryz.prog 93 #[.pointer (some ⟨tb, 0, none⟩), .int .i64 ti.1] c (Ls ++ R) (fun v L' => v = .tuple #[.agg (Entry_enc (entT el ti).1), .bool (alook el ti).isSome] ∧ ∃ Ls', L' = Ls' ++ R ∧ TbOwn tb (adel el ti) (dropL hl (entT el ti).2) Ls' ∧ (∀ (c : Cx) (R : List Pt), SlAt c (Ls' ++ R) Write_enc (entT el ti).1.ws.a (entT el ti).1.ws.n (entT el ti).2)) := by
  obtain ⟨⟨lm, es1, ck1, hm, es2, ck2, J, rfl, h1, h2, h3⟩, h4⟩ := hT
  exact C_Drop_own (L := R) h1 h2 h3 h4

end Go.X

/- PartOver's law: what is over stays over. -/
namespace Go.X
/-- what is over is committed or aborted -/
def Over23 (ol : List (I64 × Int)) : Prop := ∀ q ∈ ol, q.2 = 2 ∨ q.2 = 3
theorem Over23.look {ol : List (I64 × Int)} (h : Over23 ol) {ti : I64} (hs : (alook ol ti).isSome = true) : (alook ol ti).getD 0 = 2 ∨ (alook ol ti).getD 0 = 3 := by
  cases hl : alook ol ti with
  | none => rw [hl] at hs; cases hs
  | some v => exact h _ (alook_mem hl)
theorem aput_mem {K V : Type} [DecidableEq K] {k : K} {v : V} {q : K × V} : ∀ {l : List (K × V)}, q ∈ aput l k v → q = (k, v) ∨ q ∈ l
  | [], h => .inl (by simpa [aput] using h)
  | (y, u) :: l, h => by
    unfold aput at h
    split at h
    · rcases List.mem_cons.1 h with h | h
      · exact .inl h
      · exact .inr (List.mem_cons_of_mem _ h)
    · rcases List.mem_cons.1 h with h | h
      · exact .inr (h ▸ List.mem_cons_self)
      · exact (aput_mem h).imp_right (List.mem_cons_of_mem _)
theorem Over23.put {ol : List (I64 × Int)} (h : Over23 ol) (ti : I64) {v : Int} (hv : v = 2 ∨ v = 3) : Over23 (aput ol ti v) := by
  intro q hq
  rcases aput_mem hq with rfl | hq
  · exact hv
  · exact h q hq
theorem state_range {ol : List (I64 × Int)} {el : List (I64 × EV)} (h : Over23 ol) (ti : I64) : stateP ol el ti = 0 ∨ stateP ol el ti = 1 ∨ stateP ol el ti = 2 ∨ stateP ol el ti = 3 := by
  unfold stateP
  split
  · rename_i hs; rcases h.look hs with h | h <;> simp [h]
  · split <;> simp
theorem state_none {ol : List (I64 × Int)} {el : List (I64 × EV)} {ti : I64} (h : Over23 ol) : stateP ol el ti = 0 ↔ alook ol ti = none ∧ alook el ti = none := by
  unfold stateP
  cases ho : alook ol ti with
  | some v => have := h _ (alook_mem ho); rcases this with h | h <;> simp at h ⊢ <;> omega
  | none => cases he : alook el ti <;> simp
theorem state_one {ol : List (I64 × Int)} {el : List (I64 × EV)} {ti : I64} (h : Over23 ol) : stateP ol el ti = 1 ↔ alook ol ti = none ∧ (alook el ti).isSome = true := by
  unfold stateP
  cases ho : alook ol ti with
  | some v => have := h _ (alook_mem ho); rcases this with h | h <;> simp at h ⊢ <;> omega
  | none => cases he : alook el ti <;> simp
/-- the state of another one -/
theorem state_congr {ol ol' : List (I64 × Int)} {el el' : List (I64 × EV)} {ti : I64} (h1 : alook ol' ti = alook ol ti) (h2 : (alook el' ti).isSome = (alook el ti).isSome) : stateP ol' el' ti = stateP ol el ti := by
  unfold stateP; rw [h1, h2]
/-- from was to is -/
def Fine (was is : Int) : Prop := ¬ (2 ≤ was ∧ is ≠ was ∨ was = 1 ∧ is = 0)
theorem fine_refl (a : Int) (h : a ≠ 1 ∨ True) : Fine a a := by unfold Fine; omega
theorem fine_prep {ol : List (I64 × Int)} {el : List (I64 × EV)} {ti id : I64} (h : Over23 ol) (h0 : stateP ol el ti = 0) (q : EV) : Fine (stateP ol el id) (stateP ol (aput el ti q) id) := by
  by_cases hi : id = ti
  · subst hi; rw [h0]; unfold Fine; omega
  · have h1 := state_congr (ol := ol) (ol' := ol) (el := el) (el' := aput el ti q) (ti := id) rfl (by rw [alook_put_ne _ hi])
    rw [h1]; unfold Fine; have := state_range (el := el) h id; omega
theorem fine_end {ol : List (I64 × Int)} {el : List (I64 × EV)} {ti id : I64} {v : Int} (h : Over23 ol) (hv : v = 2 ∨ v = 3) (h0 : stateP ol el ti ≤ 1 ∨ stateP ol el ti = v) :
    Fine (stateP ol el id) (stateP (aput ol ti v) (adel el ti) id) := by
  by_cases hi : id = ti
  · subst hi
    have : stateP (aput ol id v) (adel el id) id = v := by unfold stateP; rw [alook_put_same]; rfl
    rw [this]; unfold Fine; omega
  · have h1 := state_congr (ol := ol) (ol' := aput ol ti v) (el := el) (el' := adel el ti) (ti := id) (alook_put_ne _ hi _) (by rw [alook_del_ne hi])
    rw [h1]; unfold Fine; have := state_range (el := el) h id; omega
end Go.X

namespace Go.X
open Go.Proofs
theorem hb_90 : hasBody Tryz.prog 90 = true := by kernel_rfl
theorem hb_91 : hasBody Tryz.prog 91 = true := by kernel_rfl
theorem hb_92 : hasBody Tryz.prog 92 = true := by kernel_rfl
theorem hb_93 : hasBody Tryz.prog 93 = true := by kernel_rfl
theorem hb_94 : hasBody Tryz.prog 94 = true := by kernel_rfl
theorem hb_95 : hasBody Tryz.prog 95 = true := by kernel_rfl
theorem TbOwn.nodup {tb : Nat} {el : List (I64 × EV)} {hl : List (Key × I64)} {Ls : List Pt} (h : TbOwn tb el hl Ls) : (el.map Prod.fst).Nodup ∧ (hl.map Prod.fst).Nodup := by
  obtain ⟨⟨lm, es1, ck1, hm, es2, ck2, J, rfl, h1, h2, h3⟩, h4⟩ := h
  exact ⟨h1.keys, h2.keys⟩
theorem room_hold {l : List (Key × CV)} {el : List (I64 × EV)} {hl : List (Key × I64)} {ws : List Write} {ti : I64} (h : roomP l el hl ws = true) (hn : (hl.map Prod.fst).Nodup) : (holdL hl ws ti).length ≤ 200 := by
  unfold roomP at h
  split at h
  · cases h
  · rw [decide_eq_true_eq] at h
    refine Nat.le_trans ?_ h.2
    have h1 : ((holdL hl ws ti).map Prod.fst).length ≤ (once (allK l hl ws)).length := nodup_le (holdL_nodup hn) fun k hk => by
      rw [holdL_keys] at hk
      rw [once_mem, allK, List.mem_append, List.mem_append]
      rcases hk with hk | hk
      · exact .inr (.inr hk)
      · exact .inr (.inl hk)
    simpa using h1
theorem mayP_zero {l : List (Key × CV)} {el : List (I64 × EV)} {hl : List (Key × I64)} {ol : List (I64 × Int)} {ti : I64} {e : Entry} {ws : List Write} (h : mayP l el hl ol ti e ws = 0) :
    stateP ol el ti = 0 ∧ conflictP l hl e.snap ws = false ∧ roomP l el hl ws = true := by
  unfold mayP at h
  split at h
  · cases h
  · split at h
    · cases h
    · split at h
      · cases h
      · split at h
        · cases h
        · exact ⟨by simp_all, by simp_all, by simp_all⟩
theorem add_zero {l : List (Key × CV)} {el : List (I64 × EV)} {hl : List (Key × I64)} {ol : List (I64 × Int)} {ti : I64} {e : Entry} {ws : List Write} (hov : Over23 ol) (hg : goodE e ws = true) (h : mayP l el hl ol ti e ws = 0) : addE el hl ti e ws = 0 := by
  obtain ⟨h1, h2, h3⟩ := mayP_zero h
  obtain ⟨_, he⟩ := (state_none hov).1 h1
  unfold conflictP at h2
  rw [Bool.or_eq_false_iff] at h2
  unfold roomP at h3
  split at h3
  · cases h3
  · rw [decide_eq_true_eq] at h3
    unfold addE
    rw [if_neg (by rw [hg]; decide), if_neg (by rw [he]; decide), if_neg (by rw [h2.1]; decide), if_neg h3.1]
/-- does Commit go on? what does it answer? -/
def goC (l : List (Key × CV)) (ol : List (I64 × Int)) (el : List (I64 × EV)) (ti : I64) (s : Stamp) : Prop := canCommitP l ol el ti s = 0 ∧ ¬ stateP ol el ti = 2
instance (l : List (Key × CV)) (ol : List (I64 × Int)) (el : List (I64 × EV)) (ti : I64) (s : Stamp) : Decidable (goC l ol el ti s) := by unfold goC; infer_instance
def commitE (l : List (Key × CV)) (ol : List (I64 × Int)) (el : List (I64 × EV)) (ti : I64) (s : Stamp) : Int := if goC l ol el ti s then applyE l s (entT el ti).2 else canCommitP l ol el ti s

set_option maxRecDepth 100000 in
set_option maxHeartbeats 2000000 in
theorem C_Prepare_own {c : Cx} {L : List Pt} {pb sb tb om ck : Nat} {es : Array MapEntry} {L1 L2 : List Pt} {l : List (Key × CV)} {el : List (I64 × EV)} {hl : List (Key × I64)} {ol : List (I64 × Int)} (hSo : StOwn sb l L1) (hTo : TbOwn tb el hl L2) (hMo : MapIs i64V intV es ck ol) {en : Entry} {ws : List Write} (hE : SlAt c L Write_enc en.ws.a en.ws.n ws) {ti : I64} (hid : en.id = ti.1) (hov : Over23 ol) : Fn Tryz.prog 16 #[.pointer (some ⟨pb, 0, none⟩), .agg (Entry_enc en)] c ((pb, .cells #[.pointer (some ⟨sb, 0, none⟩), .pointer (some ⟨tb, 0, none⟩), .map (some om)] 144 (0, 0)) :: (om, .map es ck) :: (L1 ++ (L2 ++ L))) (fun v L' => v = .int .i64 (prepP l el hl ol ti en ws) ∧ ∃ Ls', L' = Ls' ++ L ∧ (prepP l el hl ol ti en ws = 0 → ∃ sv, PtOwn pb l (aput el ti ({ en with ws := sv }, ws)) (holdL hl ws ti) ol Ls') ∧ (¬ prepP l el hl ol ti en ws = 0 → PtOwn pb l el hl ol Ls')) := by
  have hP : PtAt c ((pb, .cells #[.pointer (some ⟨sb, 0, none⟩), .pointer (some ⟨tb, 0, none⟩), .map (some om)] 144 (0, 0)) :: (om, .map es ck) :: (L1 ++ (L2 ++ L))) pb l el hl ol := by rw [← List.append_assoc]; exact PtOwn.at_ (R := L) (Ls := (pb, .cells #[.pointer (some ⟨sb, 0, none⟩), .pointer (some ⟨tb, 0, none⟩), .map (some om)] 144 (0, 0)) :: (om, .map es ck) :: (L1 ++ L2)) ⟨⟨sb, tb, om, es, ck, L1, L2, rfl, hSo, hTo, hMo⟩⟩
  have hsz1 := hSo.size
  obtain ⟨hsz2, hsz3⟩ := hTo.size
  refine Fn.enter Tryz.func16 rfl 21 rfl rfl (fun R hR => ?_)
  refine Cd.seq (fun K1 hK1 => ?_)
  refine Cd.region [0, 1] rfl ?_
  refine Seq.op at0 rfl (Op.new rfl (O.box (v := .agg _) rfl (cs := (Entry_enc en)) rfl) ?_)
  intro b2 hb2
  refine Seq.rd0 at1 rfl rfl (O.assign (v := .int .i64 _) rfl) ?_
  refine Seq.nil ?_
  refine hK1 ?_
  refine Cd.seq (fun K3 hK3 => ?_)
  refine Cd.seq (fun K4 hK4 => ?_)
  refine Cd.region [0, 1, 2] rfl ?_
  refine Seq.rd1 at0 rfl rfl (O.loadA kd_27 rfl (Nat.le_of_ble_eq_true rfl) (Entry_all _)) Rd.head ?_
  refine Seq.op at1 rfl (Op.callF rfl hb_89 (C_prep_Good hE.app.app.cons.cons.cons) rfl ?_)
  rintro _ _ ⟨rfl, rfl⟩
  refine Seq.rd0 at2 rfl rfl (O.not rfl) ?_
  refine Seq.nil ?_
  refine hK4 ?_
  refine Cd.cond (!(goodE en ws)) rfl (fun t5 => ?_) (fun t5 => ?_)
  · skip
    refine Cd.seq (fun K6 hK6 => ?_)
    refine Cd.region [0] rfl ?_
    refine Seq.rd0 at0 rfl rfl (O.assign (v := .int .i64 _) rfl) ?_
    refine Seq.nil ?_
    refine hK6 ?_
    refine Cd.ret ?_
    have hpt : PtOwn pb l el hl ol ((pb, .cells #[.pointer (some ⟨sb, 0, none⟩), .pointer (some ⟨tb, 0, none⟩), .map (some om)] 144 (0, 0)) :: (om, .map es ck) :: (L1 ++ L2)) := ⟨⟨sb, tb, om, es, ck, L1, L2, rfl, hSo, hTo, hMo⟩⟩
    have hpv : prepP l el hl ol ti en ws = 1 := by unfold prepP; rw [if_pos (by have h9 : (!goodE en ws) = true := (by assumption); simpa using h9)]
    have hpn : ¬ prepP l el hl ol ti en ws = 0 := by omega
    exact hR _ ((pb, .cells #[.pointer (some ⟨sb, 0, none⟩), .pointer (some ⟨tb, 0, none⟩), .map (some om)] 144 (0, 0)) :: (om, .map es ck) :: (L1 ++ (L2 ++ L))) (Res.one (v := .int .i64 _) rfl rfl) ⟨by rw [hpv], ((pb, .cells #[.pointer (some ⟨sb, 0, none⟩), .pointer (some ⟨tb, 0, none⟩), .map (some om)] 144 (0, 0)) :: (om, .map es ck) :: (L1 ++ L2)), by simp, fun h => absurd h hpn, fun _ => hpt⟩ (.cons _ (.refl _))
  · skip
    refine Cd.skip ?_
    refine hK3 ?_
    refine Cd.seq (fun K7 hK7 => ?_)
    refine Cd.seq (fun K8 hK8 => ?_)
    refine Cd.region [0, 1, 2, 3] rfl ?_
    refine Seq.rd0 at0 rfl rfl (O.move (v := .pointer _) rfl) ?_
    refine Seq.rd1 at1 rfl rfl (O.loadA kd_27 rfl (Nat.le_of_ble_eq_true rfl) (Entry_all _)) Rd.head ?_
    refine Seq.op at2 rfl (Op.callF rfl hb_90 (C_May (hP.cons) (hE.app.app.cons.cons.cons) hid (by omega)) rfl ?_)
    rintro _ _ ⟨rfl, rfl⟩
    refine Seq.rd0 at3 rfl rfl (O.assign (v := .int .i64 _) rfl) ?_
    refine Seq.nil ?_
    refine hK8 ?_
    refine Cd.seq (fun K9 hK9 => ?_)
    refine Cd.region [0, 1] rfl ?_
    refine Seq.rd0 at0 rfl rfl (O.move (v := .int .i64 _) rfl) ?_
    refine Seq.rd0 at1 rfl rfl (O.neI rfl rfl) ?_
    refine Seq.nil ?_
    refine hK9 ?_
    refine Cd.ifn ((mayP l el hl ol ti en ws) = 0) rfl (fun t10 => ?_) (fun t10 => ?_)
    · skip
      refine Cd.seq (fun K11 hK11 => ?_)
      refine Cd.region [0, 1] rfl ?_
      refine Seq.rd0 at0 rfl rfl (O.move (v := .int .i64 _) rfl) ?_
      refine Seq.rd0 at1 rfl rfl (O.assign (v := .int .i64 _) rfl) ?_
      refine Seq.nil ?_
      refine hK11 ?_
      refine Cd.ret ?_
      have hpt : PtOwn pb l el hl ol ((pb, .cells #[.pointer (some ⟨sb, 0, none⟩), .pointer (some ⟨tb, 0, none⟩), .map (some om)] 144 (0, 0)) :: (om, .map es ck) :: (L1 ++ L2)) := ⟨⟨sb, tb, om, es, ck, L1, L2, rfl, hSo, hTo, hMo⟩⟩
      have hpv : prepP l el hl ol ti en ws = mayP l el hl ol ti en ws := by unfold prepP; rw [if_neg (by have h9 : (!goodE en ws) = false := (by assumption); simpa using h9)]
      have hpn : ¬ prepP l el hl ol ti en ws = 0 := by rw [hpv]; assumption
      exact hR _ ((pb, .cells #[.pointer (some ⟨sb, 0, none⟩), .pointer (some ⟨tb, 0, none⟩), .map (some om)] 144 (0, 0)) :: (om, .map es ck) :: (L1 ++ (L2 ++ L))) (Res.one (v := .int .i64 _) rfl rfl) ⟨by rw [hpv], ((pb, .cells #[.pointer (some ⟨sb, 0, none⟩), .pointer (some ⟨tb, 0, none⟩), .map (some om)] 144 (0, 0)) :: (om, .map es ck) :: (L1 ++ L2)), by simp, fun h => absurd h hpn, fun _ => hpt⟩ (.cons _ (.refl _))
    · skip
      refine Cd.skip ?_
      refine hK7 ?_
      refine Cd.seq (fun K12 hK12 => ?_)
      refine Cd.draw 7 rfl po ?_
      refine Any.rd0 0 at0 rfl rfl (O.move (v := .pointer _) rfl) (by kernel_rfl) (by kernel_rfl) (by kernel_rfl) ?_
      refine Any.rd0 1 at1 rfl rfl (O.nilP rfl) (by kernel_rfl) (by kernel_rfl) (by kernel_rfl) ?_
      refine Any.rd0 2 at2 rfl rfl (O.field fo_144_1 rfl) (by kernel_rfl) (by kernel_rfl) (by kernel_rfl) ?_
      refine Any.rd1 3 at3 rfl rfl (O.load kd_140 rfl r3_1) Rd.head.cons (by kernel_rfl) (by kernel_rfl) (by kernel_rfl) ?_
      refine Any.rd1 4 at4 rfl rfl (O.loadA kd_27 rfl (Nat.le_of_ble_eq_true rfl) (Entry_all _)) Rd.head (by kernel_rfl) (by kernel_rfl) (by kernel_rfl) ?_
      refine Any.one 5 at5 rfl (by kernel_rfl) ⟨⟨trivial, Rd.head.cons⟩, Rd.head⟩ ?_
      have hg : goodE en ws = true := by have h9 : (!goodE en ws) = false := (by assumption); simpa using h9
      have hm0 : mayP l el hl ol ti en ws = 0 := by omega
      refine Op.callF rfl hb_91 (Fn.perm (C_Add (R := ((b2, _) :: (pb, _) :: (om, _) :: L1) ++ L) hTo (hE.app (G := ((b2, _) :: (pb, _) :: (om, _) :: L1))) hid (room_hold (mayP_zero hm0).2.2 hTo.nodup.2)) (bring (pre := ((b2, _) :: (pb, _) :: (om, _) :: L1)) (Ls := L2) (R := L))) rfl ?_
      rintro _ _ ⟨rfl, L3, rfl, hT3, _⟩
      refine Ent.perm ?_ (bring (Ls := L3) (pre := ((b2, _) :: (pb, _) :: (om, _) :: L1)) (R := L)).symm
      refine Any.toK ?_
      refine Any.rd0 6 at6 rfl rfl (O.assign (v := .int .i64 _) rfl) (by kernel_rfl) (by kernel_rfl) (by kernel_rfl) ?_
      refine Any.done (by kernel_rfl) ⟨⟨trivial, Rd.head.cons⟩, Rd.head⟩ ?_
      refine hK12 ?_
      refine Cd.ret ?_
      have ha0 := add_zero hov hg hm0
      have hp0 : prepP l el hl ol ti en ws = 0 := by unfold prepP; rw [if_neg (by rw [hg]; decide), hm0]
      obtain ⟨sv, hT4⟩ := hT3 ha0
      have hpt : PtOwn pb l (aput el ti ({ en with ws := sv }, ws)) (holdL hl ws ti) ol ((pb, .cells #[.pointer (some ⟨sb, 0, none⟩), .pointer (some ⟨tb, 0, none⟩), .map (some om)] 144 (0, 0)) :: (om, .map es ck) :: (L1 ++ L3)) := ⟨⟨sb, tb, om, es, ck, L1, L3, rfl, hSo, hT4, hMo⟩⟩
      exact hR _ ((pb, .cells #[.pointer (some ⟨sb, 0, none⟩), .pointer (some ⟨tb, 0, none⟩), .map (some om)] 144 (0, 0)) :: (om, .map es ck) :: (L1 ++ (L3 ++ L))) (Res.one (v := .int .i64 _) rfl rfl) ⟨by rw [hp0, ha0], ((pb, .cells #[.pointer (some ⟨sb, 0, none⟩), .pointer (some ⟨tb, 0, none⟩), .map (some om)] 144 (0, 0)) :: (om, .map es ck) :: (L1 ++ L3)), by simp, fun _ => ⟨sv, hpt⟩, fun h => absurd hp0 h⟩ (.cons _ (.refl _))

set_option maxRecDepth 100000 in
set_option maxHeartbeats 2000000 in
theorem C_Commit_own {c : Cx} {L : List Pt} {pb sb tb om ck : Nat} {es : Array MapEntry} {L1 L2 : List Pt} {l : List (Key × CV)} {el : List (I64 × EV)} {hl : List (Key × I64)} {ol : List (I64 × Int)} (hSo : StOwn sb l L1) (hTo : TbOwn tb el hl L2) (hMo : MapIs i64V intV es ck ol) {ti : I64} {s : Stamp} : Fn Tryz.prog 17 #[.pointer (some ⟨pb, 0, none⟩), .int .i64 ti.1, .agg (Stamp_enc s)] c ((pb, .cells #[.pointer (some ⟨sb, 0, none⟩), .pointer (some ⟨tb, 0, none⟩), .map (some om)] 144 (0, 0)) :: (om, .map es ck) :: (L1 ++ (L2 ++ L))) (fun v L' => v = .int .i64 (commitE l ol el ti s) ∧ ∃ l' Ls', L' = Ls' ++ L ∧ (¬ goC l ol el ti s → PtOwn pb l el hl ol Ls') ∧ (goC l ol el ti s → PtOwn pb l' (adel el ti) (dropL hl (entT el ti).2) (aput ol ti 2) Ls' ∧ (applyE l s (entT el ti).2 = 0 → AppS s l (entT el ti).2 l') ∧ (¬ applyE l s (entT el ti).2 = 0 → l' = l))) := by
  have hP : PtAt c ((pb, .cells #[.pointer (some ⟨sb, 0, none⟩), .pointer (some ⟨tb, 0, none⟩), .map (some om)] 144 (0, 0)) :: (om, .map es ck) :: (L1 ++ (L2 ++ L))) pb l el hl ol := by rw [← List.append_assoc]; exact PtOwn.at_ (R := L) (Ls := (pb, .cells #[.pointer (some ⟨sb, 0, none⟩), .pointer (some ⟨tb, 0, none⟩), .map (some om)] 144 (0, 0)) :: (om, .map es ck) :: (L1 ++ L2)) ⟨⟨sb, tb, om, es, ck, L1, L2, rfl, hSo, hTo, hMo⟩⟩
  have hsz1 := hSo.size
  obtain ⟨hsz2, hsz3⟩ := hTo.size
  refine Fn.enter Tryz.func17 rfl 45 rfl rfl (fun R hR => ?_)
  refine Cd.seq (fun K1 hK1 => ?_)
  refine Cd.region [0, 1] rfl ?_
  refine Seq.op at0 rfl (Op.new rfl (O.box (v := .agg _) rfl (cs := (Stamp_enc s)) rfl) ?_)
  intro b2 hb2
  refine Seq.rd0 at1 rfl rfl (O.assign (v := .int .i64 _) rfl) ?_
  refine Seq.nil ?_
  refine hK1 ?_
  refine Cd.seq (fun K3 hK3 => ?_)
  refine Cd.seq (fun K4 hK4 => ?_)
  refine Cd.region [0, 1, 2, 3, 4] rfl ?_
  refine Seq.rd0 at0 rfl rfl (O.move (v := .pointer _) rfl) ?_
  refine Seq.rd0 at1 rfl rfl (O.move (v := .int .i64 _) rfl) ?_
  refine Seq.rd1 at2 rfl rfl (O.loadA kd_24 rfl (Nat.le_of_ble_eq_true rfl) (Stamp_all _)) Rd.head ?_
  refine Seq.op at3 rfl (Op.callF rfl hb_92 (C_CanCommit (hP.cons)) rfl ?_)
  rintro _ _ ⟨rfl, rfl⟩
  refine Seq.rd0 at4 rfl rfl (O.assign (v := .int .i64 _) rfl) ?_
  refine Seq.nil ?_
  refine hK4 ?_
  refine Cd.seq (fun K5 hK5 => ?_)
  refine Cd.region [0, 1, 2, 3, 4, 5, 6, 7] rfl ?_
  refine Seq.rd0 at0 rfl rfl (O.move (v := .int .i64 _) rfl) ?_
  refine Seq.rd0 at1 rfl rfl (O.neI rfl rfl) ?_
  refine Seq.rd0 at2 rfl rfl (O.move (v := .bool _) rfl) ?_
  by_cases t6 : (canCommitP l ol el ti s) = 0
  · rw [decide_eq_true t6]
    refine Seq.rd0 at3 rfl rfl (O.move (v := .pointer _) rfl) ?_
    refine Seq.rd0 at4 rfl rfl (O.move (v := .int .i64 _) rfl) ?_
    refine Seq.op at5 rfl (Op.callF rfl hb_19 (C_State (hP.cons)) rfl ?_)
    rintro _ _ ⟨rfl, rfl⟩
    refine Seq.rd0 at6 rfl rfl (O.eqI rfl rfl) ?_
    refine Seq.rd0 at7 rfl rfl (O.pickF (v := .bool _) rfl rfl) ?_
    refine Seq.nil ?_
    refine hK5 ?_
    refine Cd.if ((stateP ol el ti) = 2) rfl (fun t7 => ?_) (fun t7 => ?_)
    · skip
      refine Cd.seq (fun K8 hK8 => ?_)
      refine Cd.region [0, 1] rfl ?_
      refine Seq.rd0 at0 rfl rfl (O.move (v := .int .i64 _) rfl) ?_
      refine Seq.rd0 at1 rfl rfl (O.assign (v := .int .i64 _) rfl) ?_
      refine Seq.nil ?_
      refine hK8 ?_
      refine Cd.ret ?_
      have hgo : ¬ goC l ol el ti s := by intro ⟨h1, h2⟩; simp_all
      have hpt : PtOwn pb l el hl ol ((pb, .cells #[.pointer (some ⟨sb, 0, none⟩), .pointer (some ⟨tb, 0, none⟩), .map (some om)] 144 (0, 0)) :: (om, .map es ck) :: (L1 ++ L2)) := ⟨⟨sb, tb, om, es, ck, L1, L2, rfl, hSo, hTo, hMo⟩⟩
      exact hR _ ((pb, .cells #[.pointer (some ⟨sb, 0, none⟩), .pointer (some ⟨tb, 0, none⟩), .map (some om)] 144 (0, 0)) :: (om, .map es ck) :: (L1 ++ (L2 ++ L))) (Res.one (v := .int .i64 _) rfl rfl) ⟨by unfold commitE; rw [if_neg hgo], l, ((pb, .cells #[.pointer (some ⟨sb, 0, none⟩), .pointer (some ⟨tb, 0, none⟩), .map (some om)] 144 (0, 0)) :: (om, .map es ck) :: (L1 ++ L2)), by simp, fun _ => hpt, fun h => absurd h hgo⟩ (.cons _ (.refl _))
    · skip
      refine Cd.skip ?_
      refine hK3 ?_
      refine Cd.seq (fun K9 hK9 => ?_)
      refine Cd.region [0, 1, 2, 3, 4, 5, 6, 7, 8, 9, 10, 11] rfl ?_
      refine Seq.rd0 at0 rfl rfl (O.move (v := .pointer _) rfl) ?_
      refine Seq.rd0 at1 rfl rfl (O.nilP rfl) ?_
      refine Seq.rd0 at2 rfl rfl (O.field fo_144_1 rfl) ?_
      refine Seq.rd1 at3 rfl rfl (O.load kd_140 rfl r3_1) Rd.head.cons ?_
      refine Seq.rd0 at4 rfl rfl (O.move (v := .int .i64 _) rfl) ?_
      refine Seq.op at5 rfl (Op.callF rfl hb_93 (Fn.perm (C_Drop (R := ((b2, _) :: (pb, _) :: (om, _) :: L1) ++ L) hTo (ti := ti)) (bring (pre := ((b2, _) :: (pb, _) :: (om, _) :: L1)) (Ls := L2) (R := L))) rfl ?_)
      rintro _ _ ⟨rfl, L3, rfl, hT3, hsl⟩
      refine Ent.perm ?_ (bring (Ls := L3) (pre := ((b2, _) :: (pb, _) :: (om, _) :: L1)) (R := L)).symm
      refine Seq.rd0 at6 rfl rfl (O.move (v := .tuple _) rfl) ?_
      refine Seq.rd0 at7 rfl rfl (O.ext rfl r2_0) ?_
      refine Seq.rd0 at8 rfl rfl (O.ext rfl r2_1) ?_
      refine Seq.op at9 rfl (Op.new rfl (O.alloc zo_27 (cs := (Entry_enc Entry.zero)) rfl) ?_)
      intro b10 hb10
      refine Seq.op at10 rfl (Op.set0 rfl (O.store kd_27 rfl (v := .agg _) rfl (Entry_size _) (Entry_room (Entry_size _)) (Entry_one _) (Entry_put _ (Entry_size _))) ?_)
      refine Seq.rd0 at11 rfl rfl (O.assign (v := .bool _) rfl) ?_
      refine Seq.nil ?_
      refine hK9 ?_
      refine Cd.seq (fun K11 hK11 => ?_)
      refine Cd.region [0, 1, 2, 3, 4, 5] rfl ?_
      refine Seq.rd0 at0 rfl rfl (O.move (v := .pointer _) rfl) ?_
      refine Seq.rd0 at1 rfl rfl (O.nilP rfl) ?_
      refine Seq.rd0 at2 rfl rfl (O.field fo_144_2 rfl) ?_
      refine Seq.rd1 at3 rfl rfl (O.load kd_142 rfl r3_2) Rd.head.cons.cons ?_
      refine Seq.rd0 at4 rfl rfl (O.move (v := .int .i64 _) rfl) ?_
      refine Seq.op at5 rfl (Op.gen rfl (O.mapSet (encV := intV) (u := 2) (a := ti) mp_142 kk_i64 hMo rfl (by exact rfl) rfl (A := [(b10, _), (b2, _), (pb, _)]) rfl) ?_)
      rintro _ _ ⟨rfl, es9, ck9, hM9, rfl⟩
      refine Seq.nil ?_
      refine hK11 ?_
      refine Cd.seq (fun K12 hK12 => ?_)
      refine Cd.draw 9 rfl po ?_
      refine Any.rd0 0 at0 rfl rfl (O.move (v := .pointer _) rfl) (by kernel_rfl) (by kernel_rfl) (by kernel_rfl) ?_
      refine Any.rd0 1 at1 rfl rfl (O.nilP rfl) (by kernel_rfl) (by kernel_rfl) (by kernel_rfl) ?_
      refine Any.rd0 2 at2 rfl rfl (O.field fo_144_0 rfl) (by kernel_rfl) (by kernel_rfl) (by kernel_rfl) ?_
      refine Any.rd1 3 at3 rfl rfl (O.load kd_137 rfl r3_0) Rd.head.cons.cons (by kernel_rfl) (by kernel_rfl) (by kernel_rfl) ?_
      refine Any.rd1 4 at4 rfl rfl (O.loadA kd_24 rfl (Nat.le_of_ble_eq_true rfl) (Stamp_all _)) Rd.head.cons (by kernel_rfl) (by kernel_rfl) (by kernel_rfl) ?_
      refine Any.rd0 5 at5 rfl rfl (O.field fo_27_3 rfl) (by kernel_rfl) (by kernel_rfl) (by kernel_rfl) ?_
      refine Any.rd1 6 at6 rfl rfl (O.load kd_25 rfl (Entry_ws _)) Rd.head (by kernel_rfl) (by kernel_rfl) (by kernel_rfl) ?_
      refine Any.one 7 at7 rfl (by kernel_rfl) ⟨⟨⟨trivial, Rd.head.cons.cons⟩, Rd.head.cons⟩, Rd.head⟩ ?_
      refine Op.callF rfl hb_94 (Fn.perm (C_Apply (R := ((b10, _) :: (b2, _) :: (pb, _) :: (om, _) :: []) ++ (L3 ++ (L))) (s := s) hSo ((hsl c L).app (G := ((b10, _) :: (b2, _) :: (pb, _) :: (om, _) :: [])))) (bring (pre := ((b10, _) :: (b2, _) :: (pb, _) :: (om, _) :: [])) (Ls := L1) (R := (L3 ++ (L))))) rfl ?_
      rintro _ _ ⟨rfl, l4, L4, hA1, hA2, hS4, rfl⟩
      refine Ent.perm ?_ (bring (Ls := L4) (pre := ((b10, _) :: (b2, _) :: (pb, _) :: (om, _) :: [])) (R := (L3 ++ (L)))).symm
      refine Any.toK ?_
      refine Any.rd0 8 at8 rfl rfl (O.assign (v := .int .i64 _) rfl) (by kernel_rfl) (by kernel_rfl) (by kernel_rfl) ?_
      refine Any.done (by kernel_rfl) ⟨⟨⟨trivial, Rd.head.cons.cons⟩, Rd.head.cons⟩, Rd.head⟩ ?_
      refine hK12 ?_
      refine Cd.ret ?_
      have hgo : goC l ol el ti s := ⟨by omega, by omega⟩
      have hpt : PtOwn pb l4 (adel el ti) (dropL hl (entT el ti).2) (aput ol ti 2) ((pb, .cells #[.pointer (some ⟨sb, 0, none⟩), .pointer (some ⟨tb, 0, none⟩), .map (some om)] 144 (0, 0)) :: (om, .map es9 ck9) :: (L4 ++ L3)) := ⟨⟨sb, tb, om, es9, ck9, L4, L3, rfl, hS4, hT3, hM9⟩⟩
      exact hR _ ((pb, .cells #[.pointer (some ⟨sb, 0, none⟩), .pointer (some ⟨tb, 0, none⟩), .map (some om)] 144 (0, 0)) :: (om, .map es9 ck9) :: (L4 ++ (L3 ++ L))) (Res.one (v := .int .i64 _) rfl rfl) ⟨by unfold commitE; rw [if_pos hgo], l4, ((pb, .cells #[.pointer (some ⟨sb, 0, none⟩), .pointer (some ⟨tb, 0, none⟩), .map (some om)] 144 (0, 0)) :: (om, .map es9 ck9) :: (L4 ++ L3)), by simp, fun h => absurd hgo h, fun _ => ⟨hpt, hA1, hA2⟩⟩ (.cons _ (.cons _ (.refl _)))
  · rw [decide_eq_false t6]
    refine Seq.pass at3 rfl rfl ?_
    refine Seq.pass at4 rfl rfl ?_
    refine Seq.pass at5 rfl rfl ?_
    refine Seq.pass at6 rfl rfl ?_
    refine Seq.rd0 at7 rfl rfl (O.pickT (v := .bool _) rfl rfl) ?_
    refine Seq.nil ?_
    refine hK5 ?_
    refine Cd.condT rfl ?_
    refine Cd.seq (fun K13 hK13 => ?_)
    refine Cd.region [0, 1] rfl ?_
    refine Seq.rd0 at0 rfl rfl (O.move (v := .int .i64 _) rfl) ?_
    refine Seq.rd0 at1 rfl rfl (O.assign (v := .int .i64 _) rfl) ?_
    refine Seq.nil ?_
    refine hK13 ?_
    refine Cd.ret ?_
    have hgo : ¬ goC l ol el ti s := by intro ⟨h1, h2⟩; simp_all
    have hpt : PtOwn pb l el hl ol ((pb, .cells #[.pointer (some ⟨sb, 0, none⟩), .pointer (some ⟨tb, 0, none⟩), .map (some om)] 144 (0, 0)) :: (om, .map es ck) :: (L1 ++ L2)) := ⟨⟨sb, tb, om, es, ck, L1, L2, rfl, hSo, hTo, hMo⟩⟩
    exact hR _ ((pb, .cells #[.pointer (some ⟨sb, 0, none⟩), .pointer (some ⟨tb, 0, none⟩), .map (some om)] 144 (0, 0)) :: (om, .map es ck) :: (L1 ++ (L2 ++ L))) (Res.one (v := .int .i64 _) rfl rfl) ⟨by unfold commitE; rw [if_neg hgo], l, ((pb, .cells #[.pointer (some ⟨sb, 0, none⟩), .pointer (some ⟨tb, 0, none⟩), .map (some om)] 144 (0, 0)) :: (om, .map es ck) :: (L1 ++ L2)), by simp, fun _ => hpt, fun h => absurd h hgo⟩ (.cons _ (.refl _))

set_option maxRecDepth 100000 in
set_option maxHeartbeats 2000000 in
theorem C_Abort_own {c : Cx} {L : List Pt} {pb sb tb om ck : Nat} {es : Array MapEntry} {L1 L2 : List Pt} {l : List (Key × CV)} {el : List (I64 × EV)} {hl : List (Key × I64)} {ol : List (I64 × Int)} (hSo : StOwn sb l L1) (hTo : TbOwn tb el hl L2) (hMo : MapIs i64V intV es ck ol) {ti : I64} : Fn Tryz.prog 18 #[.pointer (some ⟨pb, 0, none⟩), .int .i64 ti.1] c ((pb, .cells #[.pointer (some ⟨sb, 0, none⟩), .pointer (some ⟨tb, 0, none⟩), .map (some om)] 144 (0, 0)) :: (om, .map es ck) :: (L1 ++ (L2 ++ L))) (fun v L' => v = .int .i64 (canAbortP ol el ti) ∧ ∃ Ls', L' = Ls' ++ L ∧ (canAbortP ol el ti = 0 → PtOwn pb l (adel el ti) (dropL hl (entT el ti).2) (aput ol ti 3) Ls') ∧ (¬ canAbortP ol el ti = 0 → PtOwn pb l el hl ol Ls')) := by
  have hP : PtAt c ((pb, .cells #[.pointer (some ⟨sb, 0, none⟩), .pointer (some ⟨tb, 0, none⟩), .map (some om)] 144 (0, 0)) :: (om, .map es ck) :: (L1 ++ (L2 ++ L))) pb l el hl ol := by rw [← List.append_assoc]; exact PtOwn.at_ (R := L) (Ls := (pb, .cells #[.pointer (some ⟨sb, 0, none⟩), .pointer (some ⟨tb, 0, none⟩), .map (some om)] 144 (0, 0)) :: (om, .map es ck) :: (L1 ++ L2)) ⟨⟨sb, tb, om, es, ck, L1, L2, rfl, hSo, hTo, hMo⟩⟩
  have hsz1 := hSo.size
  obtain ⟨hsz2, hsz3⟩ := hTo.size
  refine Fn.enter Tryz.func18 rfl 23 rfl rfl (fun R hR => ?_)
  refine Cd.seq (fun K1 hK1 => ?_)
  refine Cd.region [0] rfl ?_
  refine Seq.rd0 at0 rfl rfl (O.assign (v := .int .i64 _) rfl) ?_
  refine Seq.nil ?_
  refine hK1 ?_
  refine Cd.seq (fun K2 hK2 => ?_)
  refine Cd.seq (fun K3 hK3 => ?_)
  refine Cd.region [0, 1, 2, 3] rfl ?_
  refine Seq.rd0 at0 rfl rfl (O.move (v := .pointer _) rfl) ?_
  refine Seq.rd0 at1 rfl rfl (O.move (v := .int .i64 _) rfl) ?_
  refine Seq.op at2 rfl (Op.callF rfl hb_95 (C_CanAbort (hP)) rfl ?_)
  rintro _ _ ⟨rfl, rfl⟩
  refine Seq.rd0 at3 rfl rfl (O.assign (v := .int .i64 _) rfl) ?_
  refine Seq.nil ?_
  refine hK3 ?_
  refine Cd.seq (fun K4 hK4 => ?_)
  refine Cd.region [0, 1] rfl ?_
  refine Seq.rd0 at0 rfl rfl (O.move (v := .int .i64 _) rfl) ?_
  refine Seq.rd0 at1 rfl rfl (O.neI rfl rfl) ?_
  refine Seq.nil ?_
  refine hK4 ?_
  refine Cd.ifn ((canAbortP ol el ti) = 0) rfl (fun t5 => ?_) (fun t5 => ?_)
  · skip
    refine Cd.seq (fun K6 hK6 => ?_)
    refine Cd.region [0, 1] rfl ?_
    refine Seq.rd0 at0 rfl rfl (O.move (v := .int .i64 _) rfl) ?_
    refine Seq.rd0 at1 rfl rfl (O.assign (v := .int .i64 _) rfl) ?_
    refine Seq.nil ?_
    refine hK6 ?_
    refine Cd.ret ?_
    have hpt : PtOwn pb l el hl ol ((pb, .cells #[.pointer (some ⟨sb, 0, none⟩), .pointer (some ⟨tb, 0, none⟩), .map (some om)] 144 (0, 0)) :: (om, .map es ck) :: (L1 ++ L2)) := ⟨⟨sb, tb, om, es, ck, L1, L2, rfl, hSo, hTo, hMo⟩⟩
    exact hR _ ((pb, .cells #[.pointer (some ⟨sb, 0, none⟩), .pointer (some ⟨tb, 0, none⟩), .map (some om)] 144 (0, 0)) :: (om, .map es ck) :: (L1 ++ (L2 ++ L))) (Res.one (v := .int .i64 _) rfl rfl) ⟨rfl, ((pb, .cells #[.pointer (some ⟨sb, 0, none⟩), .pointer (some ⟨tb, 0, none⟩), .map (some om)] 144 (0, 0)) :: (om, .map es ck) :: (L1 ++ L2)), by simp, fun h => absurd h (by assumption), fun _ => hpt⟩ (.refl _)
  · skip
    refine Cd.skip ?_
    refine hK2 ?_
    refine Cd.seq (fun K7 hK7 => ?_)
    refine Cd.region [0, 1, 2, 3, 4, 5] rfl ?_
    refine Seq.rd0 at0 rfl rfl (O.move (v := .pointer _) rfl) ?_
    refine Seq.rd0 at1 rfl rfl (O.nilP rfl) ?_
    refine Seq.rd0 at2 rfl rfl (O.field fo_144_1 rfl) ?_
    refine Seq.rd1 at3 rfl rfl (O.load kd_140 rfl r3_1) Rd.head ?_
    refine Seq.rd0 at4 rfl rfl (O.move (v := .int .i64 _) rfl) ?_
    refine Seq.op at5 rfl (Op.callF rfl hb_93 (Fn.perm (C_Drop (R := ((pb, _) :: (om, _) :: L1) ++ L) hTo (ti := ti)) (bring (pre := ((pb, _) :: (om, _) :: L1)) (Ls := L2) (R := L))) rfl ?_)
    rintro _ _ ⟨rfl, L3, rfl, hT3, hsl⟩
    refine Ent.perm ?_ (bring (Ls := L3) (pre := ((pb, _) :: (om, _) :: L1)) (R := L)).symm
    refine Seq.nil ?_
    refine hK7 ?_
    refine Cd.seq (fun K8 hK8 => ?_)
    refine Cd.region [0, 1, 2, 3, 4, 5] rfl ?_
    refine Seq.rd0 at0 rfl rfl (O.move (v := .pointer _) rfl) ?_
    refine Seq.rd0 at1 rfl rfl (O.nilP rfl) ?_
    refine Seq.rd0 at2 rfl rfl (O.field fo_144_2 rfl) ?_
    refine Seq.rd1 at3 rfl rfl (O.load kd_142 rfl r3_2) Rd.head ?_
    refine Seq.rd0 at4 rfl rfl (O.move (v := .int .i64 _) rfl) ?_
    refine Seq.op at5 rfl (Op.gen rfl (O.mapSet (encV := intV) (u := 3) (a := ti) mp_142 kk_i64 hMo rfl (by exact rfl) rfl (A := [(pb, _)]) rfl) ?_)
    rintro _ _ ⟨rfl, es9, ck9, hM9, rfl⟩
    refine Seq.nil ?_
    refine hK8 ?_
    refine Cd.seq (fun K9 hK9 => ?_)
    refine Cd.region [0] rfl ?_
    refine Seq.rd0 at0 rfl rfl (O.assign (v := .int .i64 _) rfl) ?_
    refine Seq.nil ?_
    refine hK9 ?_
    refine Cd.ret ?_
    have hp0 : canAbortP ol el ti = 0 := by omega
    have hpt : PtOwn pb l (adel el ti) (dropL hl (entT el ti).2) (aput ol ti 3) ((pb, .cells #[.pointer (some ⟨sb, 0, none⟩), .pointer (some ⟨tb, 0, none⟩), .map (some om)] 144 (0, 0)) :: (om, .map es9 ck9) :: (L1 ++ L3)) := ⟨⟨sb, tb, om, es9, ck9, L1, L3, rfl, hSo, hT3, hM9⟩⟩
    exact hR _ ((pb, .cells #[.pointer (some ⟨sb, 0, none⟩), .pointer (some ⟨tb, 0, none⟩), .map (some om)] 144 (0, 0)) :: (om, .map es9 ck9) :: (L1 ++ (L3 ++ L))) (Res.one (v := .int .i64 _) rfl rfl) ⟨by rw [hp0], ((pb, .cells #[.pointer (some ⟨sb, 0, none⟩), .pointer (some ⟨tb, 0, none⟩), .map (some om)] 144 (0, 0)) :: (om, .map es9 ck9) :: (L1 ++ L3)), by simp, fun _ => hpt, fun h => absurd hp0 h⟩ (.refl _)

theorem C_Prepare {c : Cx} {L : List Pt} {pb : Nat} {Ls : List Pt} {l : List (Key × CV)} {el : List (I64 × EV)} {hl : List (Key × I64)} {ol : List (I64 × Int)} (hPo : PtOwn pb l el hl ol Ls) {en : Entry} {ws : List Write} (hE : SlAt c L Write_enc en.ws.a en.ws.n ws) {ti : I64} (hid : en.id = ti.1) (hov : Over23 ol) : Fn Tryz.prog 16 #[.pointer (some ⟨pb, 0, none⟩), .agg (Entry_enc en)] c (Ls ++ L) (fun v L' => v = .int .i64 (prepP l el hl ol ti en ws) ∧ ∃ Ls', L' = Ls' ++ L ∧ (prepP l el hl ol ti en ws = 0 → ∃ sv, PtOwn pb l (aput el ti ({ en with ws := sv }, ws)) (holdL hl ws ti) ol Ls') ∧ (¬ prepP l el hl ol ti en ws = 0 → PtOwn pb l el hl ol Ls')) := by
  obtain ⟨⟨sb, tb, om, es, ck, L1, L2, rfl, h1, h2, h3⟩⟩ := hPo
  have h9 := C_Prepare_own (c := c) (L := L) (pb := pb) (om := om) h1 h2 h3 hE hid hov
  exact Fn.perm h9 (by simp)
theorem C_Commit {c : Cx} {L : List Pt} {pb : Nat} {Ls : List Pt} {l : List (Key × CV)} {el : List (I64 × EV)} {hl : List (Key × I64)} {ol : List (I64 × Int)} (hPo : PtOwn pb l el hl ol Ls) {ti : I64} {s : Stamp} : Fn Tryz.prog 17 #[.pointer (some ⟨pb, 0, none⟩), .int .i64 ti.1, .agg (Stamp_enc s)] c (Ls ++ L) (fun v L' => v = .int .i64 (commitE l ol el ti s) ∧ ∃ l' Ls', L' = Ls' ++ L ∧ (¬ goC l ol el ti s → PtOwn pb l el hl ol Ls') ∧ (goC l ol el ti s → PtOwn pb l' (adel el ti) (dropL hl (entT el ti).2) (aput ol ti 2) Ls' ∧ (applyE l s (entT el ti).2 = 0 → AppS s l (entT el ti).2 l') ∧ (¬ applyE l s (entT el ti).2 = 0 → l' = l))) := by
  obtain ⟨⟨sb, tb, om, es, ck, L1, L2, rfl, h1, h2, h3⟩⟩ := hPo
  have h9 := C_Commit_own (c := c) (L := L) (pb := pb) (om := om) (ti := ti) (s := s) h1 h2 h3
  exact Fn.perm h9 (by simp)
theorem C_Abort {c : Cx} {L : List Pt} {pb : Nat} {Ls : List Pt} {l : List (Key × CV)} {el : List (I64 × EV)} {hl : List (Key × I64)} {ol : List (I64 × Int)} (hPo : PtOwn pb l el hl ol Ls) {ti : I64} : Fn Tryz.prog 18 #[.pointer (some ⟨pb, 0, none⟩), .int .i64 ti.1] c (Ls ++ L) (fun v L' => v = .int .i64 (canAbortP ol el ti) ∧ ∃ Ls', L' = Ls' ++ L ∧ (canAbortP ol el ti = 0 → PtOwn pb l (adel el ti) (dropL hl (entT el ti).2) (aput ol ti 3) Ls') ∧ (¬ canAbortP ol el ti = 0 → PtOwn pb l el hl ol Ls')) := by
  obtain ⟨⟨sb, tb, om, es, ck, L1, L2, rfl, h1, h2, h3⟩⟩ := hPo
  have h9 := C_Abort_own (c := c) (L := L) (pb := pb) (om := om) (ti := ti) h1 h2 h3
  exact Fn.perm h9 (by simp)

end Go.X

/- The promise: what is prepared can be committed. Plain. -/
namespace Go.X
/-- an entry is good, its keys are its own, nothing is above its snapshot, there is room -/
structure EntOk (l : List (Key × CV)) (hl : List (Key × I64)) (ti : I64) (q : EV) : Prop where
  good : goodE q.1 q.2 = true
  held : ∀ w ∈ q.2, alook hl w.key = some ti
  snap : ∀ w ∈ q.2, ∀ v ∈ getS l w.key, ¬ 0 < v.stamp.cmp q.1.snap
  room : ∀ w ∈ q.2, (getS l w.key).length < 50
structure Inv (l : List (Key × CV)) (el : List (I64 × EV)) (hl : List (Key × I64)) (ol : List (I64 × Int)) : Prop where
  ln : (l.map Prod.fst).Nodup
  en : (el.map Prod.fst).Nodup
  hn : (hl.map Prod.fst).Nodup
  sorted : ∀ k, Sorted (getS l k)
  over : Over23 ol
  free : ∀ ti q, alook el ti = some q → alook ol ti = none
  ent : ∀ ti q, alook el ti = some q → EntOk l hl ti q
  hold : ∀ k ti, alook hl k = some ti → ∃ q, alook el ti = some q ∧ k ∈ q.2.map (·.key)
  room : (once (l.map Prod.fst ++ hl.map Prod.fst)).length ≤ 200
theorem Inv.nil : Inv [] [] [] [] :=
  ⟨by simp, by simp, by simp, fun k => by simp [getS, alook, Sorted], by intro q hq; simp at hq, by intro ti q h; simp [alook] at h, by intro ti q h; simp [alook] at h, by intro k ti h; simp [alook] at h, by decide⟩
theorem goodE_parts {e : Entry} {ws : List Write} (h : goodE e ws = true) : 1 ≤ e.id ∧ e.snap.good ∧ manyWs ws = true ∧ goodWs ws = true ∧ e.stamp.good ∧ 0 < e.stamp.cmp e.snap := by
  unfold goodE mayE at h
  simp only [Bool.and_eq_true, decide_eq_true_eq] at h
  exact ⟨h.1.1, h.1.2.1, h.1.2.2.1, h.1.2.2.2, h.2.1, h.2.2⟩
theorem goodWs_nodup {ws : List Write} (h : goodWs ws = true) : (ws.map (·.key)).Nodup := by
  unfold goodWs at h
  rw [Bool.and_eq_true, decide_eq_true_eq] at h
  exact h.2
theorem goodWs_mem {ws : List Write} (h : goodWs ws = true) {w : Write} (hw : w ∈ ws) : goodK w.key = true ∧ w.val.size ≤ 200 ∧ ¬ (w.gone = true ∧ ¬ w.val = ⟨#[]⟩) := by
  unfold goodWs at h
  rw [Bool.and_eq_true, List.all_eq_true] at h
  have := h.1 w hw
  unfold goodW at this
  simp only [Bool.and_eq_true, decide_eq_true_eq, Bool.not_eq_true', Bool.and_eq_false_iff, Bool.not_eq_false', decide_eq_false_iff_not] at this
  refine ⟨this.1.1, this.1.2, fun ⟨h1, h2⟩ => ?_⟩
  rcases this.2 with h3 | h3
  · rw [h1] at h3; cases h3
  · exact h2 h3
theorem alook_some_of_mem {K V : Type} [DecidableEq K] {k : K} {l : List (K × V)} (h : k ∈ l.map Prod.fst) : ∃ v, alook l k = some v := by
  cases hl : alook l k with
  | some v => exact ⟨v, rfl⟩
  | none =>
    induction l with
    | nil => simp at h
    | cons q l ih =>
      obtain ⟨y, u⟩ := q
      unfold alook at hl
      split at hl
      · cases hl
      · rename_i hne
        simp only [List.map_cons, List.mem_cons] at h
        rcases h with h | h
        · exact absurd h.symm hne
        · exact ih h hl
theorem mem_of_alook {K V : Type} [DecidableEq K] {k : K} {v : V} {l : List (K × V)} (h : alook l k = some v) : k ∈ l.map Prod.fst := List.mem_map.2 ⟨_, alook_mem h, rfl⟩
theorem not_mem_of_alook {K V : Type} [DecidableEq K] {k : K} {l : List (K × V)} (h : alook l k = none) : k ∉ l.map Prod.fst := fun hm => by
  obtain ⟨v, hv⟩ := alook_some_of_mem hm
  rw [h] at hv; cases hv
theorem once_le {a b : List Key} (h : ∀ k ∈ a, k ∈ b) : (once a).length ≤ (once b).length :=
  nodup_le (once_nodup a) fun k hk => (once_mem k b).2 (h k ((once_mem k a).1 hk))
theorem holdL_look {ti : I64} : ∀ {ws : List Write} {hl : List (Key × I64)} (k : Key), alook (holdL hl ws ti) k = if k ∈ ws.map (·.key) then some ti else alook hl k
  | [], hl, k => by simp [holdL]
  | w :: ws, hl, k => by
    rw [show holdL hl (w :: ws) ti = holdL (aput hl w.key ti) ws ti from rfl, holdL_look k, List.map_cons]
    by_cases h1 : k ∈ ws.map (·.key)
    · rw [if_pos h1, if_pos (List.mem_cons_of_mem _ h1)]
    · rw [if_neg h1]
      by_cases h2 : k = w.key
      · subst h2; rw [alook_put_same, if_pos List.mem_cons_self]
      · rw [alook_put_ne _ h2, if_neg (by rw [List.mem_cons, not_or]; exact ⟨h2, h1⟩)]
theorem dropL_look : ∀ {ws : List Write} {hl : List (Key × I64)} (_h : (hl.map Prod.fst).Nodup) (k : Key), alook (dropL hl ws) k = if k ∈ ws.map (·.key) then none else alook hl k
  | [], hl, _, k => by simp [dropL]
  | w :: ws, hl, hn, k => by
    have hn2 : ((adel hl w.key).map Prod.fst).Nodup := ((adel_sub w.key hl).map _).nodup hn
    rw [show dropL hl (w :: ws) = dropL (adel hl w.key) ws from rfl, dropL_look hn2 k, List.map_cons]
    by_cases h1 : k ∈ ws.map (·.key)
    · rw [if_pos h1, if_pos (List.mem_cons_of_mem _ h1)]
    · rw [if_neg h1]
      by_cases h2 : k = w.key
      · subst h2; rw [alook_del_same hn, if_pos List.mem_cons_self]
      · rw [alook_del_ne h2, if_neg (by rw [List.mem_cons, not_or]; exact ⟨h2, h1⟩)]
/-- a version that is not above a stamp, if the newest is not -/
theorem newest_all {vs : List Version} {s : Stamp} (hs : Sorted vs) (h : ∀ x, newestV vs = some x → ¬ 0 < x.stamp.cmp s) : ∀ v ∈ vs, ¬ 0 < v.stamp.cmp s := by
  intro v hv
  unfold newestV at h
  obtain ⟨i, hi, rfl⟩ := List.getElem_of_mem hv
  have hl : vs.getLast? = some (vs[vs.length - 1]'(by omega)) := by
    rw [List.getLast?_eq_getElem?, List.getElem?_eq_getElem]
  have h1 := h _ hl
  rw [cmp_pos] at h1 ⊢
  intro h2
  by_cases he : i = vs.length - 1
  · subst he; exact h1 h2
  · exact h1 (Stamp.lt_trans h2 (sorted_get hs (by omega) (by omega)))
theorem prepP_zero {l : List (Key × CV)} {el : List (I64 × EV)} {hl : List (Key × I64)} {ol : List (I64 × Int)} {ti : I64} {e : Entry} {ws : List Write} (h : prepP l el hl ol ti e ws = 0) :
    goodE e ws = true ∧ stateP ol el ti = 0 ∧ conflictP l hl e.snap ws = false ∧ roomP l el hl ws = true := by
  unfold prepP mayP at h
  split at h
  · cases h
  · split at h
    · cases h
    · split at h
      · cases h
      · split at h
        · cases h
        · split at h
          · cases h
          · exact ⟨by simp_all, by simp_all, by simp_all, by simp_all⟩
theorem Inv.prep {l : List (Key × CV)} {el : List (I64 × EV)} {hl : List (Key × I64)} {ol : List (I64 × Int)} (hI : Inv l el hl ol) {ti : I64} {e : Entry} {ws : List Write} {sv : Sv} (h : prepP l el hl ol ti e ws = 0) :
    Inv l (aput el ti ({ e with ws := sv }, ws)) (holdL hl ws ti) ol := by
  obtain ⟨hg, hst, hcf, hrm⟩ := prepP_zero h
  obtain ⟨ho, he⟩ := (state_none hI.over).1 hst
  obtain ⟨_, _, _, hgw, _, _⟩ := goodE_parts hg
  unfold conflictP at hcf
  rw [Bool.or_eq_false_iff, List.any_eq_false, List.any_eq_false] at hcf
  have hnh : ∀ w ∈ ws, alook hl w.key = none := by
    intro w hw
    have := hcf.1 w hw
    cases hk : alook hl w.key with
    | none => rfl
    | some _ => rw [hk] at this; simp at this
  unfold roomP at hrm
  split at hrm
  · cases hrm
  · rename_i hfull
    rw [decide_eq_true_eq] at hrm
    refine ⟨hI.ln, aput_nodup _ _ hI.en, holdL_nodup hI.hn, hI.sorted, hI.over, ?_, ?_, ?_, ?_⟩
    · intro t q hq
      by_cases ht : t = ti
      · subst ht; exact ho
      · rw [alook_put_ne _ ht] at hq; exact hI.free t q hq
    · intro t q hq
      by_cases ht : t = ti
      · subst ht
        rw [alook_put_same] at hq
        obtain rfl := Option.some.inj hq
        refine ⟨hg, fun w hw => ?_, fun w hw => ?_, fun w hw => ?_⟩
        · rw [holdL_look, if_pos (List.mem_map.2 ⟨w, hw, rfl⟩)]
        · refine newest_all (hI.sorted _) fun x hx => ?_
          have := hcf.2 w hw
          unfold aboveS at this
          rw [hx] at this
          simpa using this
        · have := hfull
          rw [Bool.not_eq_true, List.any_eq_false] at this
          have h2 := this w hw
          unfold fullS at h2
          simp only [decide_eq_true_eq] at h2
          omega
      · rw [alook_put_ne _ ht] at hq
        obtain ⟨h1, h2, h3, h4⟩ := hI.ent t q hq
        refine ⟨h1, fun w hw => ?_, h3, h4⟩
        rw [holdL_look, if_neg, h2 w hw]
        intro hm
        obtain ⟨w', hw', hk⟩ := List.mem_map.1 hm
        have h5 := hnh w' hw'
        rw [show w'.key = w.key from hk, h2 w hw] at h5
        cases h5
    · intro k t hk
      rw [holdL_look] at hk
      split at hk
      · rename_i hm
        obtain rfl := Option.some.inj hk
        exact ⟨_, alook_put_same _ _ _, hm⟩
      · obtain ⟨q, h1, h2⟩ := hI.hold k t hk
        have hne : t ≠ ti := fun e => by rw [e, he] at h1; cases h1
        exact ⟨q, by rw [alook_put_ne _ hne]; exact h1, h2⟩
    · refine Nat.le_trans (once_le fun k hk => ?_) hrm.2
      unfold allK
      rw [List.mem_append, holdL_keys] at hk
      simp only [List.mem_append]
      rcases hk with hk | hk | hk
      · exact .inl hk
      · exact .inr (.inr hk)
      · exact .inr (.inl hk)
end Go.X

namespace Go.X
open Go.Proofs

section
variable {P : Program} {e : Env} {d : Option Tmp} {ty : TypeId} {p : String} {af : Array Edge} {g : Option (Nat × Bool)} {x y : Operand}
theorem O.indexT {t : TypeId} {s : ByteArray} {k : IntKind} {i : Int} {b : UInt8} (ht : isDesc P t = 3) (hx : ev e x = .string s) (hy : ev e y = .int k i) (h0 : 0 ≤ i) (hb : s[i.toNat]? = some b) :
    Rn0 P e ⟨d, .index t x y, ty, p, af, g⟩ (.int .u8 (b.toNat : Int)) := fun w => by
  have hu : P.underlying t = some .string := desc_str ht
  simp [execOp, Instr.index, hx, hy, asIntOf, run_under hu, h0, hb]
theorem O.lenTl {t : TypeId} {l : List UInt8} (ht : isDesc P t = 3) (hx : ev e x = .string ⟨l.toArray⟩) :
    Rn0 P e ⟨d, .call { callee := .builtin .len, args := #[x], argTypes := #[t] }, ty, p, af, g⟩ (.int .i64 (l.length : Int)) := by
  have := O.lenT (d := d) (ty := ty) (p := p) (af := af) (g := g) ht hx
  have h2 : (⟨l.toArray⟩ : ByteArray).size = l.length := by show l.toArray.size = _; simp
  rw [h2] at this; exact this
end
theorem bytes_get {l : List UInt8} {i : Nat} (h : i < l.length) : (⟨l.toArray⟩ : ByteArray)[((i : Nat) : Int).toNat]? = some l[i] := by
  rw [Int.toNat_natCast, getElem?_pos (⟨l.toArray⟩ : ByteArray) i (by show i < l.toArray.size; simpa using h)]
  rfl
theorem padK_l {l : List UInt8} (h : l.length ≤ 16) : (padK l).l = l ++ List.replicate (16 - l.length) 0 := by unfold padK; rw [dif_pos h]
theorem padK_put {l : List UInt8} {i : Nat} (hi : i < l.length) (h16 : l.length ≤ 16) : putL (Key_enc (padK (l.take i))) (0 + ((i : Nat) : Int).toNat * 1) [.int .u8 (l[i].toNat : Int)] = Key_enc (padK (l.take (i + 1))) := by
  have h1 : (l.take i).length = i := by rw [List.length_take]; omega
  have h2 : (l.take (i + 1)).length = i + 1 := by rw [List.length_take]; omega
  rw [Key_cells, Key_cells, padK_l (by omega), padK_l (by omega), h1, h2, show 16 - i = (16 - (i + 1)) + 1 by omega, List.replicate_succ, ← List.take_append_getElem hi]
  have := put_mid (cs := ((l.take i ++ 0 :: List.replicate (16 - (i + 1)) 0).map byteV).toArray) (pre := ((l.take i).map byteV).toArray) (mid := #[byteV 0]) (post := ((List.replicate (16 - (i + 1)) (0 : UInt8)).map byteV).toArray) (v := #[byteV l[i]]) (o := 0 + ((i : Nat) : Int).toNat * 1)
    (by simp) rfl (by simp only [List.size_toArray, List.length_map, h1]; omega)
  rw [show ([.int .u8 (l[i].toNat : Int)] : List Value) = (#[byteV l[i]] : Array Value).toList from rfl, this]
  apply Array.ext'
  simp only [Array.toList_append, List.map_append, List.map_cons, List.map_nil, List.append_assoc]
theorem padK_nil : padK [] = .zero := by rfl

set_option maxRecDepth 100000 in
set_option maxHeartbeats 2000000 in
theorem C_ref_Of {c : Cx} {L : List Pt} {l : List UInt8} (hok : okT l = true) : Fn Tryz.prog 103 #[.string ⟨l.toArray⟩] c L (fun v L' => v = .tuple #[.agg (Key_enc (padK l)), .bool true] ∧ L' = L) := by
  obtain ⟨hne, h16, hz0⟩ : l ≠ [] ∧ l.length ≤ 16 ∧ (0 : UInt8) ∉ l := by unfold okT at hok; exact of_decide_eq_true hok
  have hpos : 0 < l.length := List.length_pos_iff.2 hne
  refine Fn.enter Tryz.func103 rfl 33 rfl rfl (fun R hR => ?_)
  refine Cd.seq (fun K1 hK1 => ?_)
  refine Cd.region [0, 1] rfl ?_
  refine Seq.op at0 rfl (Op.new rfl (O.alloc zo_45 (cs := (Key_enc Key.zero)) rfl) ?_)
  intro b2 hb2
  refine Seq.rd0 at1 rfl rfl (O.assign (v := .bool _) rfl) ?_
  refine Seq.nil ?_
  refine hK1 ?_
  refine Cd.seq (fun K3 hK3 => ?_)
  refine Cd.region [0, 1, 2] rfl ?_
  refine Seq.rd0 at0 rfl rfl (O.build rfl (cs := (Key_enc Key.zero)) (by kernel_rfl)) ?_
  refine Seq.op at1 rfl (Op.new rfl (O.alloc zo_45 (cs := (Key_enc Key.zero)) rfl) ?_)
  intro b4 hb4
  refine Seq.op at2 rfl (Op.set0 rfl (O.store kd_45 rfl (v := .agg _) rfl (Key_size _) (Key_room (Key_size _)) (Key_one _) (Key_put _ (Key_size _))) ?_)
  refine Seq.nil ?_
  refine hK3 ?_
  refine Cd.seq (fun K5 hK5 => ?_)
  refine Cd.seq (fun K6 hK6 => ?_)
  refine Cd.region [0, 1, 2, 3, 4, 5, 6, 7] rfl ?_
  refine Seq.rd0 at0 rfl rfl (O.move (v := .string _) rfl) ?_
  refine Seq.rd0 at1 rfl rfl (O.lenTl ds_9 rfl) ?_
  refine Seq.rd0 at2 rfl rfl (O.lss rfl rfl) ?_
  refine Seq.rd0 at3 rfl rfl (O.move (v := .bool _) rfl) ?_
  have t7 : ¬ ((l.length : Int) < 1) := by omega
  rw [decide_eq_false t7]
  refine Seq.rd0 at4 rfl rfl (O.move (v := .string _) rfl) ?_
  refine Seq.rd0 at5 rfl rfl (O.lenTl ds_9 rfl) ?_
  refine Seq.rd0 at6 rfl rfl (O.gtr rfl rfl) ?_
  refine Seq.rd0 at7 rfl rfl (O.pickF (v := .bool _) rfl rfl) ?_
  refine Seq.nil ?_
  refine hK6 ?_
  refine Cd.if ((16 : Int) < (l.length : Int)) rfl (fun t8 => ?_) (fun t8 => ?_)
  · skip
    omega
  · skip
    refine Cd.skip ?_
    refine hK5 ?_
    refine Cd.seq (fun K9 hK9 => ?_)
    refine Cd.seq (fun K10 hK10 => ?_)
    refine Cd.region [0] rfl ?_
    refine Seq.rd0 at0 rfl rfl (O.assign (v := .int .i64 _) rfl) ?_
    refine Seq.nil ?_
    refine hK10 ?_
    refine Cd.block ?_
    refine Cd.loop (fun m11 e12 L13 => ∃ i : Nat, m11 = l.length - i ∧ e12 0 = .string (⟨l.toArray⟩ : ByteArray) ∧ e12 2 = .pointer (some ⟨b2, 0, none⟩) ∧ e12 4 = .pointer (some ⟨b4, 0, none⟩) ∧ e12 5 = .int .i64 (i : Int) ∧ L13 = (b4, .cells (Key_enc (padK (l.take i))) 45 (0, 0)) :: (b2, .cells (Key_enc Key.zero) 45 (0, 0)) :: L ∧ i ≤ l.length) _ ⟨0, rfl, rfl, rfl, rfl, rfl, rfl, Nat.zero_le _⟩ ?_
    rintro _ e12 _ ⟨i, rfl, s14, s15, s16, s17, rfl, hi⟩ K18 hK18
    refine Cd.seq (fun K19 hK19 => ?_)
    refine Cd.seq (fun K20 hK20 => ?_)
    refine Cd.region [0, 1, 2, 3] rfl ?_
    refine Seq.rd0 at0 rfl rfl (O.move (v := .int .i64 _) (by exact s17)) ?_
    refine Seq.rd0 at1 rfl rfl (O.move (v := .string _) (by exact s14)) ?_
    refine Seq.rd0 at2 rfl rfl (O.lenTl ds_9 rfl) ?_
    refine Seq.rd0 at3 rfl rfl (O.lss rfl rfl) ?_
    refine Seq.nil ?_
    refine hK20 ?_
    refine Cd.if ((i : Int) < (l.length : Int)) rfl (fun t21 => ?_) (fun t21 => ?_)
    · skip
      refine Cd.skip ?_
      refine hK19 ?_
      refine Cd.seq (fun K22 hK22 => ?_)
      refine Cd.block ?_
      refine Cd.seq (fun K23 hK23 => ?_)
      refine Cd.seq (fun K24 hK24 => ?_)
      refine Cd.region [0, 1, 2, 3] rfl ?_
      refine Seq.rd0 at0 rfl rfl (O.move (v := .string _) (by exact s14)) ?_
      refine Seq.rd0 at1 rfl rfl (O.move (v := .int .i64 _) (by exact s17)) ?_
      have hlt24 : i < l.length := by omega
      refine Seq.rd0 at2 rfl rfl (O.indexT ds_9 rfl rfl (by omega) (bytes_get hlt24)) ?_
      refine Seq.rd0 at3 rfl rfl (O.eqI rfl rfl) ?_
      refine Seq.nil ?_
      refine hK24 ?_
      refine Cd.if ((l[i].toNat : Int) = 0) rfl (fun t25 => ?_) (fun t25 => ?_)
      · skip
        exact absurd (show l[i] = 0 from UInt8.toNat_inj.1 (by simpa using t25)) (fun e => hz0 (e ▸ List.getElem_mem _))
      · skip
        refine Cd.skip ?_
        refine hK23 ?_
        refine Cd.region [0, 1, 2, 3, 4, 5] rfl ?_
        refine Seq.rd0 at0 rfl rfl (O.move (v := .int .i64 _) (by exact s17)) ?_
        refine Seq.rd0 at1 rfl rfl (O.move (v := .string _) (by exact s14)) ?_
        refine Seq.rd0 at2 rfl rfl (O.move (v := .int .i64 _) (by exact s17)) ?_
        have hlt30 : i < l.length := by omega
        refine Seq.rd0 at3 rfl rfl (O.indexT ds_9 rfl rfl (by omega) (bytes_get hlt30)) ?_
        refine Seq.rd0 at4 rfl rfl (O.indexA ar_45 (by exact s16) rfl (by omega) (by omega)) ?_
        refine Seq.op at5 rfl (Op.set0 rfl (O.store1 kd_5 rfl (v := .int .u8 _) rfl (by rw [Key_size]; omega) rfl (cs' := Key_enc (padK (l.take (i + 1)))) (padK_put hlt30 (by omega))) ?_)
        refine Seq.nil ?_
        refine hK22 ?_
        refine Cd.region [0, 1, 2] rfl ?_
        refine Seq.rd0 at0 rfl rfl (O.move (v := .int .i64 _) (by exact s17)) ?_
        refine Seq.rd0 at1 rfl rfl (O.add rfl rfl (by omega) (by omega)) ?_
        refine Seq.rd0 at2 rfl rfl (O.assign (v := .int .i64 _) rfl) ?_
        refine Seq.nil ?_
        exact hK18 _ (by omega) ⟨i + 1, rfl, (by exact s14), (by exact s15), (by exact s16), rfl, rfl, by omega⟩
    · skip
      refine Cd.exit ?_
      refine hK9 ?_
      refine Cd.seq (fun K26 hK26 => ?_)
      refine Cd.region [0, 1, 2] rfl ?_
      refine Seq.rd1 at0 rfl rfl (O.loadA kd_45 (by exact s16) (Nat.le_of_ble_eq_true rfl) (Key_all _)) Rd.head ?_
      refine Seq.op at1 rfl (Op.set1 rfl (O.store kd_45 (by exact s15) (v := .agg _) rfl (Key_size _) (Key_room (Key_size _)) (Key_one _) (Key_put _ (Key_size _))) ?_)
      refine Seq.rd0 at2 rfl rfl (O.assign (v := .bool _) rfl) ?_
      refine Seq.nil ?_
      refine hK26 ?_
      refine Cd.ret ?_
      have hil : i = l.length := by omega
      exact hR _ _ (Res.cell2 (v := .bool _) rfl kd_45 (by exact s15) rfl Rd.head.cons rfl) ⟨by rw [hil, List.take_length], rfl⟩ (.cons _ (.cons _ (.refl _)))

end Go.X

namespace Go.X
open Go.Proofs
theorem hb_103 : hasBody Tryz.prog 103 = true := by kernel_rfl
theorem hb_66 : hasBody Tryz.prog 66 = true := by kernel_rfl
theorem hb_67 : hasBody Tryz.prog 67 = true := by kernel_rfl
set_option maxRecDepth 100000 in
set_option maxHeartbeats 2000000 in
theorem C_law_k {c : Cx} {L : List Pt} {l : List UInt8} (hok : okT l = true) : Fn Tryz.prog 67 #[.string ⟨l.toArray⟩] c L (fun v L' => v = .agg (Key_enc (padK l)) ∧ L' = L) := by
  refine Fn.enter Tryz.func67 rfl 11 rfl rfl (fun R hR => ?_)
  refine Cd.seq (fun K1 hK1 => ?_)
  refine Cd.region [0] rfl ?_
  refine Seq.op at0 rfl (Op.new rfl (O.alloc zo_45 (cs := (Key_enc Key.zero)) rfl) ?_)
  intro b2 hb2
  refine Seq.nil ?_
  refine hK1 ?_
  refine Cd.seq (fun K3 hK3 => ?_)
  refine Cd.region [0, 1, 2, 3, 4, 5, 6, 7] rfl ?_
  refine Seq.rd0 at0 rfl rfl (O.move (v := .string _) rfl) ?_
  refine Seq.op at1 rfl (Op.callF rfl hb_103 (C_ref_Of (l := l) hok) rfl ?_)
  rintro _ _ ⟨rfl, rfl⟩
  refine Seq.rd0 at2 rfl rfl (O.move (v := .tuple _) rfl) ?_
  refine Seq.rd0 at3 rfl rfl (O.ext rfl r2_0) ?_
  refine Seq.rd0 at4 rfl rfl (O.ext rfl r2_1) ?_
  refine Seq.op at5 rfl (Op.new rfl (O.alloc zo_45 (cs := (Key_enc Key.zero)) rfl) ?_)
  intro b4 hb4
  refine Seq.op at6 rfl (Op.set0 rfl (O.store kd_45 rfl (v := .agg _) rfl (Key_size _) (Key_room (Key_size _)) (Key_one _) (Key_put _ (Key_size _))) ?_)
  refine Seq.rd0 at7 rfl rfl (O.assign (v := .bool _) rfl) ?_
  refine Seq.nil ?_
  refine hK3 ?_
  refine Cd.seq (fun K5 hK5 => ?_)
  refine Cd.region [0, 1] rfl ?_
  refine Seq.rd1 at0 rfl rfl (O.loadA kd_45 rfl (Nat.le_of_ble_eq_true rfl) (Key_all _)) Rd.head ?_
  refine Seq.op at1 rfl (Op.set1 rfl (O.store kd_45 rfl (v := .agg _) rfl (Key_size _) (Key_room (Key_size _)) (Key_one _) (Key_put _ (Key_size _))) ?_)
  refine Seq.nil ?_
  refine hK5 ?_
  refine Cd.ret ?_
  exact hR _ _ (Res.cell (out := #[]) rfl kd_45 rfl  Rd.head.cons rfl) ⟨rfl, rfl⟩ (.cons _ (.cons _ (.refl _)))

set_option maxRecDepth 100000 in
set_option maxHeartbeats 2000000 in
theorem C_law_of {c : Cx} {L : List Pt} {l : List UInt8} {i0 sn t0 : Int} (hok : okT l = true) : Fn Tryz.prog 65 #[.int .i64 i0, .string ⟨l.toArray⟩, .int .i64 sn, .int .i64 t0] c L (fun v L' => ∃ b, c.w0.heap.size ≤ b ∧ v = .agg (Entry_enc (⟨i0, ⟨sn, 0⟩, ⟨t0, 0⟩, ⟨some ⟨b, 0, none⟩, 1, 1⟩⟩ : Entry)) ∧ L' = (b, .cells (rows Write_enc [(⟨padK l, ⟨#[118]⟩, false⟩ : Write)]) 47 (0, 0)) :: L) := by
  refine Fn.enter Tryz.func65 rfl 19 rfl rfl (fun R hR => ?_)
  refine Cd.seq (fun K1 hK1 => ?_)
  refine Cd.region [0] rfl ?_
  refine Seq.op at0 rfl (Op.new rfl (O.alloc zo_27 (cs := (Entry_enc Entry.zero)) rfl) ?_)
  intro b2 hb2
  refine Seq.nil ?_
  refine hK1 ?_
  refine Cd.seq (fun K3 hK3 => ?_)
  refine Cd.region [0, 1, 2, 3, 4, 5, 6, 7, 8, 9, 10] rfl ?_
  refine Seq.rd0 at0 rfl rfl (O.move (v := .int .i64 _) rfl) ?_
  refine Seq.rd0 at1 rfl rfl (O.move (v := .int .i64 _) rfl) ?_
  refine Seq.op at2 rfl (Op.callF rfl hb_66 (C_law_at (t := sn)) rfl ?_)
  rintro _ _ ⟨rfl, rfl⟩
  refine Seq.rd0 at3 rfl rfl (O.move (v := .int .i64 _) rfl) ?_
  refine Seq.op at4 rfl (Op.callF rfl hb_66 (C_law_at (t := t0)) rfl ?_)
  rintro _ _ ⟨rfl, rfl⟩
  refine Seq.rd0 at5 rfl rfl (O.move (v := .string _) rfl) ?_
  refine Seq.op at6 rfl (Op.callF rfl hb_67 (C_law_k (l := l) hok) rfl ?_)
  rintro _ _ ⟨rfl, rfl⟩
  refine Seq.rd0 at7 rfl rfl (O.build rfl (cs := (Write_enc (⟨padK l, (⟨#[118]⟩ : ByteArray), false⟩ : Write))) (by kernel_rfl)) ?_
  refine Seq.op at8 rfl (Op.new rfl (O.buildSlice (el := 47) rfl (cs := (rows Write_enc [(⟨padK l, (⟨#[118]⟩ : ByteArray), false⟩ : Write)])) (by kernel_rfl)) ?_)
  intro b4 hb4
  refine Seq.rd0 at9 rfl rfl (O.build rfl (cs := (Entry_enc (⟨i0, (⟨sn, 0⟩ : Stamp), (⟨t0, 0⟩ : Stamp), ⟨(some ⟨b4, 0, none⟩), 1, 1⟩⟩ : Entry))) (by kernel_rfl)) ?_
  refine Seq.op at10 rfl (Op.set1 rfl (O.store kd_27 rfl (v := .agg _) rfl (Entry_size _) (Entry_room (Entry_size _)) (Entry_one _) (Entry_put _ (Entry_size _))) ?_)
  refine Seq.nil ?_
  refine hK3 ?_
  refine Cd.ret ?_
  exact hR _ _ (Res.cell (out := Entry_enc (⟨i0, ⟨sn, 0⟩, ⟨t0, 0⟩, ⟨some ⟨b4, 0, none⟩, 1, 1⟩⟩ : Entry)) rfl kd_27 rfl Rd.head.cons rfl) ⟨b4, hb4, rfl, rfl⟩ (.cons_cons _ (.cons _ (.refl _)))

theorem C_part_New2 {c : Cx} {L : List Pt} : Fn Tryz.prog 15 #[] c L (fun v L' => ∃ pb Ls, v = .pointer (some ⟨pb, 0, none⟩) ∧ PtOwn pb [] [] [] [] Ls ∧ L' = Ls ++ L) := by
  refine Fn.post C_part_New ?_
  rintro v L' ⟨pb, om, tb, hm, lm, sb, mb, _, _, _, _, _, _, _, hv, rfl⟩
  have hS : StOwn sb [] [(sb, .cells #[.map (some mb)] 245 (0, 0)), (mb, .map #[] 0)] := ⟨⟨mb, #[], 0, [], rfl, MapIs.nil, rfl⟩, by decide⟩
  have hT : TbOwn tb [] [] [(tb, .cells #[.map (some lm), .map (some hm)] 249 (0, 0)), (lm, .map #[] 0), (hm, .map #[] 0)] :=
    ⟨⟨lm, #[], 0, hm, #[], 0, [], rfl, MapIs.nil, MapIs.nil, fun id q hq => by simp [alook] at hq⟩, by decide⟩
  refine ⟨_, ⟨pb, _, hv, ⟨⟨sb, tb, om, #[], 0, _, _, rfl, hS, hT, MapIs.nil⟩⟩, rfl⟩, ?_⟩
  refine List.Perm.cons _ (List.Perm.cons _ ?_)
  refine List.Perm.trans ?_ (show List.Perm _ ([(sb, Obj.cells #[.map (some mb)] 245 (0, 0)), (mb, .map #[] 0)] ++ ([(tb, .cells #[.map (some lm), .map (some hm)] 249 (0, 0)), (lm, .map #[] 0), (hm, .map #[] 0)] ++ L)) from List.perm_append_comm_assoc [(tb, Obj.cells #[.map (some lm), .map (some hm)] 249 (0, 0)), (lm, .map #[] 0), (hm, .map #[] 0)] _ _)
  exact List.Perm.cons _ (List.Perm.swap _ _ _)
theorem AppS.one {s : Stamp} {l l' : List (Key × CV)} {w : Write} (h : AppS s l [w] l') : ∃ cb, l' = aput l w.key (cb, afterPut (getS l w.key) ⟨s, w.val, w.gone⟩) := by
  generalize hw : [w] = ws at h
  cases h with
  | nil => cases hw
  | snoc h =>
    rename_i ws l1 w' cb
    cases ws with
    | nil =>
      simp only [List.nil_append, List.cons.injEq, and_true] at hw
      subst hw
      generalize hn : ([] : List Write) = ws0 at h
      cases h with
      | nil => exact ⟨cb, rfl⟩
      | snoc h => exact absurd (congrArg List.length hn) (by simp)
    | cons a ws => exact absurd (congrArg List.length hw) (by simp)
theorem SlAt.one {c : Cx} {L : List Pt} {α : Type} {enc : α → Array Value} {b el : Nat} {x : α} (h : Rd c L b (.cells (rows enc [x]) el (0, 0))) : SlAt c L enc (some ⟨b, 0, none⟩) 1 [x] :=
  ⟨rfl, by decide, fun _ => ⟨#[], #[], el, (0, 0), rfl, by show Rd c L b (.cells (#[] ++ (rows enc [x] ++ #[])) el (0, 0)); rw [Array.append_empty, Array.empty_append]; exact h⟩⟩
def kA : Key := padK [97]
def i1 : I64 := ⟨1, by decide⟩
def eA (sv : Sv) : Entry := ⟨1, ⟨0, 0⟩, ⟨5, 0⟩, sv⟩
def wA : Write := ⟨kA, ⟨#[118]⟩, false⟩
theorem okA : okT [97] = true := by rfl
theorem aw1 (sv : Sv) : prepP [] [] [] [] i1 (eA sv) [wA] = 0 := by kernel_rfl
theorem aw2 (sv : Sv) : readP [] [(i1, (eA sv, [wA]))] [(kA, i1)] kA ⟨5, 0⟩ 9 = (⟨#[]⟩, false, 8) := by kernel_rfl
theorem aw3 (sv : Sv) : canCommitP [] [] [(i1, (eA sv, [wA]))] i1 ⟨7, 0⟩ = 0 := by kernel_rfl
theorem aw4 : applyE [] ⟨7, 0⟩ [wA] = 0 := by kernel_rfl
theorem aw5 (cb : Nat) : readP [(kA, (cb, [⟨⟨7, 0⟩, ⟨#[118]⟩, false⟩]))] [] [] kA ⟨6, 9⟩ 9 = (⟨#[]⟩, false, 0) := by kernel_rfl
theorem aw6 (cb : Nat) : readP [(kA, (cb, [⟨⟨7, 0⟩, ⟨#[118]⟩, false⟩]))] [] [] kA ⟨7, 0⟩ 9 = (⟨#[118]⟩, true, 0) := by kernel_rfl
theorem aw7 : stateP [(i1, 2)] [] i1 = 2 := by kernel_rfl

end Go.X

namespace Go.X
open Go.Proofs
theorem ds_30 : isDesc Tryz.prog 30 = 4 := by kernel_rfl
theorem hb_15 : hasBody Tryz.prog 15 = true := by kernel_rfl
theorem hb_16 : hasBody Tryz.prog 16 = true := by kernel_rfl
theorem hb_17 : hasBody Tryz.prog 17 = true := by kernel_rfl
theorem hb_20 : hasBody Tryz.prog 20 = true := by kernel_rfl
theorem hb_65 : hasBody Tryz.prog 65 = true := by kernel_rfl
theorem aw8 (sv : Sv) : stateP [] [(i1, (eA sv, [wA]))] i1 = 1 := by kernel_rfl
set_option maxRecDepth 100000 in
set_option maxHeartbeats 2000000 in
theorem C_awake {c : Cx} {L : List Pt}  : Fn Tryz.prog 13 #[] c L (fun v L' => v = .bool true ∧ L' = L) := by
  refine Fn.enter Tryz.func13 rfl 80 rfl rfl (fun R hR => ?_)
  refine Cd.seq (fun K1 hK1 => ?_)
  refine Cd.region [0] rfl ?_
  refine Seq.rd0 at0 rfl rfl (O.assign (v := .bool _) rfl) ?_
  refine Seq.nil ?_
  refine hK1 ?_
  refine Cd.seq (fun K2 hK2 => ?_)
  refine Cd.region [0, 1] rfl ?_
  refine Seq.op at0 rfl (Op.callF rfl hb_15 C_part_New2 rfl ?_)
  rintro _ _ ⟨pb, Lp0, rfl, hp0, rfl⟩
  refine Seq.rd0 at1 rfl rfl (O.assign (v := .pointer _) rfl) ?_
  refine Seq.nil ?_
  refine hK2 ?_
  refine Cd.seq (fun K3 hK3 => ?_)
  refine Cd.seq (fun K4 hK4 => ?_)
  refine Cd.region [0, 1] rfl ?_
  refine Seq.rd0 at0 rfl rfl (O.move (v := .pointer _) rfl) ?_
  refine Seq.rd0 at1 rfl rfl (O.eqNil ds_30 rfl rfl) ?_
  refine Seq.nil ?_
  refine hK4 ?_
  refine Cd.condF rfl ?_
  refine Cd.skip ?_
  refine hK3 ?_
  refine Cd.seq (fun K5 hK5 => ?_)
  refine Cd.region [0, 1, 2, 3] rfl ?_
  refine Seq.rd0 at0 rfl rfl (O.move (v := .pointer _) rfl) ?_
  refine Seq.op at1 rfl (Op.callF rfl hb_65 (C_law_of (l := [97]) okA) rfl ?_)
  rintro _ _ ⟨bw, hbw, rfl, rfl⟩
  refine Seq.op at2 rfl (Op.callF rfl hb_16 (Fn.perm (C_Prepare (L := ((bw, _) :: []) ++ L) hp0 (en := eA ⟨some ⟨bw, 0, none⟩, 1, 1⟩) (ws := [wA]) (SlAt.one Rd.head) (ti := i1) rfl (by intro q hq; simp at hq)) (bring (pre := ((bw, _) :: [])) (Ls := Lp0) (R := L))) rfl ?_)
  rintro _ _ ⟨rfl, Lp1, rfl, hp1, _⟩
  rw [aw1]
  obtain ⟨sv, hp1⟩ := hp1 (aw1 _)
  have hp1 : PtOwn pb [] [(i1, (eA sv, [wA]))] [(kA, i1)] [] Lp1 := hp1
  refine Ent.perm ?_ (bring (Ls := Lp1) (pre := ((bw, _) :: [])) (R := L)).symm
  refine Seq.rd0 at3 rfl rfl (O.assign (v := .int .i64 _) rfl) ?_
  refine Seq.nil ?_
  refine hK5 ?_
  refine Cd.seq (fun K6 hK6 => ?_)
  refine Cd.region [0, 1, 2, 3, 4, 5, 6, 7, 8, 9, 10] rfl ?_
  refine Seq.rd0 at0 rfl rfl (O.move (v := .pointer _) rfl) ?_
  refine Seq.op at1 rfl (Op.callF rfl hb_67 (C_law_k (l := [97]) okA) rfl ?_)
  rintro _ _ ⟨rfl, rfl⟩
  refine Seq.op at2 rfl (Op.callF rfl hb_66 (C_law_at (t := 5)) rfl ?_)
  rintro _ _ ⟨rfl, rfl⟩
  refine Seq.op at3 rfl (Op.callF rfl hb_20 (C_Read (k := kA) (s := (⟨5, 0⟩ : Stamp)) (now := 9) ((PtOwn.at_ (R := L) hp1).cons)) rfl ?_)
  rintro _ _ ⟨rfl, rfl⟩
  rw [aw2 sv]
  refine Seq.rd0 at4 rfl rfl (O.move (v := .tuple _) rfl) ?_
  refine Seq.rd0 at5 rfl rfl (O.ext rfl r3_0) ?_
  refine Seq.rd0 at6 rfl rfl (O.ext rfl r3_1) ?_
  refine Seq.rd0 at7 rfl rfl (O.ext rfl r3_2) ?_
  refine Seq.rd0 at8 rfl rfl (O.assign (v := .string _) rfl) ?_
  refine Seq.rd0 at9 rfl rfl (O.assign (v := .bool _) rfl) ?_
  refine Seq.rd0 at10 rfl rfl (O.assign (v := .int .i64 _) rfl) ?_
  refine Seq.nil ?_
  refine hK6 ?_
  refine Cd.seq (fun K7 hK7 => ?_)
  refine Cd.region [0, 1, 2, 3] rfl ?_
  refine Seq.rd0 at0 rfl rfl (O.move (v := .pointer _) rfl) ?_
  refine Seq.op at1 rfl (Op.callF rfl hb_66 (C_law_at (t := 7)) rfl ?_)
  rintro _ _ ⟨rfl, rfl⟩
  refine Seq.op at2 rfl (Op.callF rfl hb_17 (Fn.perm (C_Commit (L := ((bw, _) :: []) ++ L) hp1 (ti := i1) (s := ⟨7, 0⟩)) (bring (pre := ((bw, _) :: [])) (Ls := Lp1) (R := L))) rfl ?_)
  rintro _ _ ⟨rfl, l2, Lp2, rfl, _, hp2⟩
  have hgo : goC [] [] [(i1, (eA sv, [wA]))] i1 ⟨7, 0⟩ := ⟨aw3 sv, by rw [aw8]; decide⟩
  obtain ⟨hp2, hA, _⟩ := hp2 hgo
  obtain ⟨cb, rfl⟩ := AppS.one (hA aw4)
  have hcm : commitE [] [] [(i1, (eA sv, [wA]))] i1 ⟨7, 0⟩ = 0 := by unfold commitE; rw [if_pos hgo]; exact aw4
  rw [hcm]
  have hp2 : PtOwn pb [(kA, (cb, [⟨⟨7, 0⟩, ⟨#[118]⟩, false⟩]))] [] [] [(i1, 2)] Lp2 := hp2
  refine Ent.perm ?_ (bring (Ls := Lp2) (pre := ((bw, _) :: [])) (R := L)).symm
  refine Seq.rd0 at3 rfl rfl (O.assign (v := .int .i64 _) rfl) ?_
  refine Seq.nil ?_
  refine hK7 ?_
  refine Cd.seq (fun K8 hK8 => ?_)
  refine Cd.region [0, 1, 2, 3, 4, 5, 6, 7, 8, 9, 10] rfl ?_
  refine Seq.rd0 at0 rfl rfl (O.move (v := .pointer _) rfl) ?_
  refine Seq.op at1 rfl (Op.callF rfl hb_67 (C_law_k (l := [97]) okA) rfl ?_)
  rintro _ _ ⟨rfl, rfl⟩
  refine Seq.rd0 at2 rfl rfl (O.build rfl (cs := (Stamp_enc (⟨6, 9⟩ : Stamp))) (by kernel_rfl)) ?_
  refine Seq.op at3 rfl (Op.callF rfl hb_20 (C_Read (k := kA) (s := (⟨6, 9⟩ : Stamp)) (now := 9) ((PtOwn.at_ (R := L) hp2).cons)) rfl ?_)
  rintro _ _ ⟨rfl, rfl⟩
  rw [aw5 cb]
  refine Seq.rd0 at4 rfl rfl (O.move (v := .tuple _) rfl) ?_
  refine Seq.rd0 at5 rfl rfl (O.ext rfl r3_0) ?_
  refine Seq.rd0 at6 rfl rfl (O.ext rfl r3_1) ?_
  refine Seq.rd0 at7 rfl rfl (O.ext rfl r3_2) ?_
  refine Seq.rd0 at8 rfl rfl (O.assign (v := .string _) rfl) ?_
  refine Seq.rd0 at9 rfl rfl (O.assign (v := .bool _) rfl) ?_
  refine Seq.rd0 at10 rfl rfl (O.assign (v := .int .i64 _) rfl) ?_
  refine Seq.nil ?_
  refine hK8 ?_
  refine Cd.seq (fun K9 hK9 => ?_)
  refine Cd.region [0, 1, 2, 3, 4, 5, 6, 7, 8, 9, 10] rfl ?_
  refine Seq.rd0 at0 rfl rfl (O.move (v := .pointer _) rfl) ?_
  refine Seq.op at1 rfl (Op.callF rfl hb_67 (C_law_k (l := [97]) okA) rfl ?_)
  rintro _ _ ⟨rfl, rfl⟩
  refine Seq.op at2 rfl (Op.callF rfl hb_66 (C_law_at (t := 7)) rfl ?_)
  rintro _ _ ⟨rfl, rfl⟩
  refine Seq.op at3 rfl (Op.callF rfl hb_20 (C_Read (k := kA) (s := (⟨7, 0⟩ : Stamp)) (now := 9) ((PtOwn.at_ (R := L) hp2).cons)) rfl ?_)
  rintro _ _ ⟨rfl, rfl⟩
  rw [aw6 cb]
  refine Seq.rd0 at4 rfl rfl (O.move (v := .tuple _) rfl) ?_
  refine Seq.rd0 at5 rfl rfl (O.ext rfl r3_0) ?_
  refine Seq.rd0 at6 rfl rfl (O.ext rfl r3_1) ?_
  refine Seq.rd0 at7 rfl rfl (O.ext rfl r3_2) ?_
  refine Seq.rd0 at8 rfl rfl (O.assign (v := .string _) rfl) ?_
  refine Seq.rd0 at9 rfl rfl (O.assign (v := .bool _) rfl) ?_
  refine Seq.rd0 at10 rfl rfl (O.assign (v := .int .i64 _) rfl) ?_
  refine Seq.nil ?_
  refine hK9 ?_
  refine Cd.seq (fun K10 hK10 => ?_)
  refine Cd.region [0, 1, 2, 3, 4, 5, 6, 7, 8, 9, 10, 11, 12, 13, 14, 15, 16, 17, 18, 19, 20, 21, 22, 23, 24, 25, 26, 27, 28, 29, 30, 31, 32, 33, 34] rfl ?_
  refine Seq.rd0 at0 rfl rfl (O.move (v := .int .i64 _) rfl) ?_
  refine Seq.rd0 at1 rfl rfl (O.eqI rfl rfl) ?_
  refine Seq.rd0 at2 rfl rfl (O.move (v := .bool _) rfl) ?_
  have t11 : (0 : Int) = 0 := rfl
  rw [decide_eq_true t11]
  refine Seq.rd0 at3 rfl rfl (O.move (v := .int .i64 _) rfl) ?_
  refine Seq.rd0 at4 rfl rfl (O.eqI rfl rfl) ?_
  refine Seq.rd0 at5 rfl rfl (O.pickT (v := .bool _) rfl rfl) ?_
  refine Seq.rd0 at6 rfl rfl (O.move (v := .bool _) rfl) ?_
  have t12 : (8 : Int) = 8 := rfl
  rw [decide_eq_true t12]
  refine Seq.rd0 at7 rfl rfl (O.move (v := .int .i64 _) rfl) ?_
  refine Seq.rd0 at8 rfl rfl (O.eqI rfl rfl) ?_
  refine Seq.rd0 at9 rfl rfl (O.pickT (v := .bool _) rfl rfl) ?_
  refine Seq.rd0 at10 rfl rfl (O.move (v := .bool _) rfl) ?_
  have t13 : (0 : Int) = 0 := rfl
  rw [decide_eq_true t13]
  refine Seq.rd0 at11 rfl rfl (O.move (v := .bool _) rfl) ?_
  refine Seq.rd0 at12 rfl rfl (O.not rfl) ?_
  refine Seq.rd0 at13 rfl rfl (O.pickT (v := .bool _) rfl rfl) ?_
  refine Seq.rd0 at14 rfl rfl (O.move (v := .bool _) rfl) ?_
  refine Seq.rd0 at15 rfl rfl (O.move (v := .int .i64 _) rfl) ?_
  refine Seq.rd0 at16 rfl rfl (O.eqI rfl rfl) ?_
  refine Seq.rd0 at17 rfl rfl (O.pickT (v := .bool _) rfl rfl) ?_
  refine Seq.rd0 at18 rfl rfl (O.move (v := .bool _) rfl) ?_
  have t14 : (0 : Int) = 0 := rfl
  rw [decide_eq_true t14]
  refine Seq.rd0 at19 rfl rfl (O.move (v := .bool _) rfl) ?_
  refine Seq.rd0 at20 rfl rfl (O.pickT (v := .bool _) rfl rfl) ?_
  refine Seq.rd0 at21 rfl rfl (O.move (v := .bool _) rfl) ?_
  refine Seq.rd0 at22 rfl rfl (O.move (v := .int .i64 _) rfl) ?_
  refine Seq.rd0 at23 rfl rfl (O.eqI rfl rfl) ?_
  refine Seq.rd0 at24 rfl rfl (O.pickT (v := .bool _) rfl rfl) ?_
  refine Seq.rd0 at25 rfl rfl (O.move (v := .bool _) rfl) ?_
  have t15 : (0 : Int) = 0 := rfl
  rw [decide_eq_true t15]
  refine Seq.rd0 at26 rfl rfl (O.move (v := .string _) rfl) ?_
  refine Seq.rd0 at27 rfl rfl (O.eqS rfl rfl) ?_
  refine Seq.rd0 at28 rfl rfl (O.pickT (v := .bool _) rfl rfl) ?_
  refine Seq.rd0 at29 rfl rfl (O.move (v := .bool _) rfl) ?_
  have t16 : (⟨#[118]⟩ : ByteArray) = (⟨#[118]⟩ : ByteArray) := rfl
  rw [decide_eq_true t16]
  refine Seq.rd0 at30 rfl rfl (O.move (v := .pointer _) rfl) ?_
  refine Seq.op at31 rfl (Op.callF rfl hb_19 (C_State (ti := i1) ((PtOwn.at_ (R := L) hp2).cons)) rfl ?_)
  rintro _ _ ⟨rfl, rfl⟩
  rw [aw7]
  refine Seq.rd0 at32 rfl rfl (O.eqI rfl rfl) ?_
  refine Seq.rd0 at33 rfl rfl (O.pickT (v := .bool _) rfl rfl) ?_
  refine Seq.rd0 at34 rfl rfl (O.assign (v := .bool _) rfl) ?_
  refine Seq.nil ?_
  refine hK10 ?_
  refine Cd.ret ?_
  exact hR _ _ (Res.one (v := .bool _) rfl rfl) ⟨rfl, rfl⟩ (.cons _ (sub_app (G := Lp2) (.refl _)))

end Go.X
