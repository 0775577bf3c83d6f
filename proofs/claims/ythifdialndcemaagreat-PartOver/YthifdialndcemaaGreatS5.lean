/- Part 5 of the proofs over this program: what its functions compute. -/
import Derived.Test.YthifdialndcemaaGreatProg
import Derived.Test.YthifdialndcemaaGreatS4
set_option linter.unusedVariables false
set_option linter.unusedSimpArgs false

namespace Go.X
open Go.Proofs
theorem hb_219 : hasBody Tryz.prog 219 = true := by kernel_rfl
theorem kd_140 : kindOf Tryz.prog 140 = some (false, 1) := by kernel_rfl
theorem mp_246 : Tryz.prog.underlying 246 = some (.map 2 27) := by kernel_rfl
theorem pf_27_2 : partOf Tryz.prog 27 2 = some (3, true, 2) := by kernel_rfl
theorem zo_2 : zeroOf Tryz.prog 2 = some (.int .i64 0) := by kernel_rfl
set_option maxRecDepth 100000 in
set_option maxHeartbeats 2000000 in
theorem C_Held1 {c : Cx} {L : List Pt} {tb bb : Nat} {el : List (I64 × EV)} {hl : List (Key × I64)} {x : Write} (hb : Rd c L bb (.cells #[.pointer (some ⟨tb, 0, none⟩)] 140 (0, 0))) (hT : TbAt c L tb el hl) : Fn Tryz.prog 221 #[.agg (Write_enc x), .pointer (some ⟨bb, 0, none⟩)] c L (fun v L' => v = .bool (alook hl x.key).isSome ∧ L' = L) := by
  obtain ⟨hT1, hT2⟩ := hT.size
  obtain ⟨⟨lm, es1, ck1, hm, es2, ck2, htb, hlm, hM1, hhm, hM2⟩, hws, _⟩ := id hT
  refine Fn.enter Tryz.func221 rfl 17 rfl rfl (fun R hR => ?_)
  refine Cd.seq (fun K1 hK1 => ?_)
  refine Cd.region [0, 1] rfl ?_
  refine Seq.op at0 rfl (Op.new rfl (O.box (v := .agg _) rfl (cs := (Write_enc x)) rfl) ?_)
  intro b2 hb2
  refine Seq.rd0 at1 rfl rfl (O.assign (v := .bool _) rfl) ?_
  refine Seq.nil ?_
  refine hK1 ?_
  refine Cd.seq (fun K3 hK3 => ?_)
  refine Cd.draw 12 rfl po ?_
  refine Any.rd1 0 at0 rfl rfl (O.load kd_140 rfl r1_0) hb.cons (by kernel_rfl) (by kernel_rfl) (by kernel_rfl) ?_
  refine Any.rd0 1 at1 rfl rfl (O.nilP rfl) (by kernel_rfl) (by kernel_rfl) (by kernel_rfl) ?_
  refine Any.rd0 2 at2 rfl rfl (O.field fo_249_1 rfl) (by kernel_rfl) (by kernel_rfl) (by kernel_rfl) ?_
  refine Any.rd1 3 at3 rfl rfl (O.load kd_247 rfl r2_1) htb.cons (by kernel_rfl) (by kernel_rfl) (by kernel_rfl) ?_
  refine Any.rd0 4 at4 rfl rfl (O.field fo_47_0 rfl) (by kernel_rfl) (by kernel_rfl) (by kernel_rfl) ?_
  refine Any.rd1 5 at5 rfl rfl (O.loadA kd_45 rfl (Nat.le_of_ble_eq_true rfl) (Write_key _)) Rd.head (by kernel_rfl) (by kernel_rfl) (by kernel_rfl) ?_
  refine Any.rd1 6 at6 rfl rfl (O.lookD (ok := true) (encV := i64V) (a := x.key) i64z mp_247 kk_key hM2 zo_2 rfl (by exact rfl)) hhm.cons (by kernel_rfl) (by kernel_rfl) (by kernel_rfl) ?_
  refine Any.rd0 7 at7 rfl rfl (O.move (v := .tuple _) rfl) (by kernel_rfl) (by kernel_rfl) (by kernel_rfl) ?_
  refine Any.rd0 8 at8 rfl rfl (O.ext rfl r2_0) (by kernel_rfl) (by kernel_rfl) (by kernel_rfl) ?_
  refine Any.rd0 9 at9 rfl rfl (O.ext rfl r2_1) (by kernel_rfl) (by kernel_rfl) (by kernel_rfl) ?_
  refine Any.rd0 10 at10 rfl rfl (O.assign (v := .int .i64 _) rfl) (by kernel_rfl) (by kernel_rfl) (by kernel_rfl) ?_
  refine Any.rd0 11 at11 rfl rfl (O.assign (v := .bool _) rfl) (by kernel_rfl) (by kernel_rfl) (by kernel_rfl) ?_
  refine Any.done (by kernel_rfl) ⟨⟨⟨⟨trivial, hb.cons⟩, htb.cons⟩, Rd.head⟩, hhm.cons⟩ ?_
  refine hK3 ?_
  refine Cd.seq (fun K4 hK4 => ?_)
  refine Cd.region [0, 1] rfl ?_
  refine Seq.rd0 at0 rfl rfl (O.move (v := .bool _) rfl) ?_
  refine Seq.rd0 at1 rfl rfl (O.assign (v := .bool _) rfl) ?_
  refine Seq.nil ?_
  refine hK4 ?_
  refine Cd.ret ?_
  exact hR _ _ (Res.one (v := .bool _) rfl rfl) ⟨rfl, rfl⟩ (.cons _ (.refl _))

set_option maxRecDepth 100000 in
set_option maxHeartbeats 2000000 in
theorem C_Held {c : Cx} {L : List Pt} {tb : Nat} {el : List (I64 × EV)} {hl : List (Key × I64)} (hT : TbAt c L tb el hl) {av : Option Addr} {nw cw : Nat} {ws : List Write} (hW : SlAt c L Write_enc av nw ws) : Fn Tryz.prog 166 #[.pointer (some ⟨tb, 0, none⟩), .slice av nw cw] c L (fun v L' => v = .bool (ws.any fun x => (alook hl x.key).isSome) ∧ L' = L) := by
  refine Fn.enter Tryz.func166 rfl 8 rfl rfl (fun R hR => ?_)
  refine Cd.seq (fun K1 hK1 => ?_)
  refine Cd.region [0, 1] rfl ?_
  refine Seq.op at0 rfl (Op.new rfl (O.box (v := .pointer _) rfl rfl) ?_)
  intro b2 hb2
  refine Seq.rd0 at1 rfl rfl (O.assign (v := .bool _) rfl) ?_
  refine Seq.nil ?_
  refine hK1 ?_
  refine Cd.seq (fun K3 hK3 => ?_)
  refine Cd.region [0, 1, 2, 3] rfl ?_
  refine Seq.rd0 at0 rfl rfl (O.move (v := .slice _ _ _) rfl) ?_
  refine Seq.rd0 at1 rfl rfl (O.mkFunc (fs' := #[]) (cs' := #[.pointer (some ⟨b2, 0, none⟩)]) (by kernel_rfl) (by kernel_rfl)) ?_
  refine Seq.op at2 rfl (Op.callF rfl hb_219 (C_ContainsFunc (p := fun x => (alook hl x.key).isSome) (hW.cons) ⟨by kernel_rfl, fun x L2 hs => C_Held1 ((Rd.head).sub hs) ((hT.cons).sub hs)⟩) rfl ?_)
  rintro _ _ ⟨rfl, rfl⟩
  refine Seq.rd0 at3 rfl rfl (O.assign (v := .bool _) rfl) ?_
  refine Seq.nil ?_
  refine hK3 ?_
  refine Cd.ret ?_
  exact hR _ _ (Res.one (v := .bool _) rfl rfl) ⟨rfl, rfl⟩ (.cons _ (.refl _))

/-- whom a read of a key at a time must wait for -/
def blocksT (el : List (I64 × EV)) (hl : List (Key × I64)) (k : Key) (s : Stamp) : Int × Bool :=
  if (alook hl k).isSome then (if 0 < ((alook el ((alook hl k).getD i64z)).getD evz).1.stamp.cmp s then (0, false) else (((alook hl k).getD i64z).1, true)) else (0, false)

set_option maxRecDepth 100000 in
set_option maxHeartbeats 2000000 in
theorem C_Blocks {c : Cx} {L : List Pt} {tb : Nat} {el : List (I64 × EV)} {hl : List (Key × I64)} (hT : TbAt c L tb el hl) {k : Key} {s : Stamp} : Fn Tryz.prog 99 #[.pointer (some ⟨tb, 0, none⟩), .agg (Key_enc k), .agg (Stamp_enc s)] c L (fun v L' => v = .tuple #[.int .i64 (blocksT el hl k s).1, .bool (blocksT el hl k s).2] ∧ L' = L) := by
  obtain ⟨hT1, hT2⟩ := hT.size
  obtain ⟨⟨lm, es1, ck1, hm, es2, ck2, htb, hlm, hM1, hhm, hM2⟩, hws, _⟩ := id hT
  refine Fn.enter Tryz.func99 rfl 34 rfl rfl (fun R hR => ?_)
  refine Cd.seq (fun K1 hK1 => ?_)
  refine Cd.region [0, 1, 2, 3] rfl ?_
  refine Seq.op at0 rfl (Op.new rfl (O.box (v := .agg _) rfl (cs := (Key_enc k)) rfl) ?_)
  intro b2 hb2
  refine Seq.op at1 rfl (Op.new rfl (O.box (v := .agg _) rfl (cs := (Stamp_enc s)) rfl) ?_)
  intro b3 hb3
  refine Seq.rd0 at2 rfl rfl (O.assign (v := .int .i64 _) rfl) ?_
  refine Seq.rd0 at3 rfl rfl (O.assign (v := .bool _) rfl) ?_
  refine Seq.nil ?_
  refine hK1 ?_
  refine Cd.seq (fun K4 hK4 => ?_)
  refine Cd.draw 11 rfl po ?_
  refine Any.rd0 0 at0 rfl rfl (O.move (v := .pointer _) rfl) (by kernel_rfl) (by kernel_rfl) (by kernel_rfl) ?_
  refine Any.rd0 1 at1 rfl rfl (O.nilP rfl) (by kernel_rfl) (by kernel_rfl) (by kernel_rfl) ?_
  refine Any.rd0 2 at2 rfl rfl (O.field fo_249_1 rfl) (by kernel_rfl) (by kernel_rfl) (by kernel_rfl) ?_
  refine Any.rd1 3 at3 rfl rfl (O.load kd_247 rfl r2_1) htb.cons.cons (by kernel_rfl) (by kernel_rfl) (by kernel_rfl) ?_
  refine Any.rd1 4 at4 rfl rfl (O.loadA kd_45 rfl (Nat.le_of_ble_eq_true rfl) (Key_all _)) Rd.head.cons (by kernel_rfl) (by kernel_rfl) (by kernel_rfl) ?_
  refine Any.rd1 5 at5 rfl rfl (O.lookD (ok := true) (encV := i64V) (a := k) i64z mp_247 kk_key hM2 zo_2 rfl (by exact rfl)) hhm.cons.cons (by kernel_rfl) (by kernel_rfl) (by kernel_rfl) ?_
  refine Any.rd0 6 at6 rfl rfl (O.move (v := .tuple _) rfl) (by kernel_rfl) (by kernel_rfl) (by kernel_rfl) ?_
  refine Any.rd0 7 at7 rfl rfl (O.ext rfl r2_0) (by kernel_rfl) (by kernel_rfl) (by kernel_rfl) ?_
  refine Any.rd0 8 at8 rfl rfl (O.ext rfl r2_1) (by kernel_rfl) (by kernel_rfl) (by kernel_rfl) ?_
  refine Any.rd0 9 at9 rfl rfl (O.assign (v := .int .i64 _) rfl) (by kernel_rfl) (by kernel_rfl) (by kernel_rfl) ?_
  refine Any.rd0 10 at10 rfl rfl (O.assign (v := .bool _) rfl) (by kernel_rfl) (by kernel_rfl) (by kernel_rfl) ?_
  refine Any.done (by kernel_rfl) ⟨⟨⟨trivial, htb.cons.cons⟩, Rd.head.cons⟩, hhm.cons.cons⟩ ?_
  refine hK4 ?_
  refine Cd.seq (fun K5 hK5 => ?_)
  refine Cd.seq (fun K6 hK6 => ?_)
  refine Cd.draw 14 rfl po ?_
  refine Any.rd0 0 at0 rfl rfl (O.move (v := .bool _) rfl) (by kernel_rfl) (by kernel_rfl) (by kernel_rfl) ?_
  refine Any.rd0 1 at1 rfl rfl (O.not rfl) (by kernel_rfl) (by kernel_rfl) (by kernel_rfl) ?_
  refine Any.rd0 2 at2 rfl rfl (O.move (v := .bool _) rfl) (by kernel_rfl) (by kernel_rfl) (by kernel_rfl) ?_
  cases t7 : (alook hl k).isSome
  · skip
    refine Any.pass 3 at3 rfl rfl (by kernel_rfl) (by kernel_rfl) (by kernel_rfl) ?_
    refine Any.pass 4 at4 rfl rfl (by kernel_rfl) (by kernel_rfl) (by kernel_rfl) ?_
    refine Any.pass 5 at5 rfl rfl (by kernel_rfl) (by kernel_rfl) (by kernel_rfl) ?_
    refine Any.pass 6 at6 rfl rfl (by kernel_rfl) (by kernel_rfl) (by kernel_rfl) ?_
    refine Any.pass 7 at7 rfl rfl (by kernel_rfl) (by kernel_rfl) (by kernel_rfl) ?_
    refine Any.pass 8 at8 rfl rfl (by kernel_rfl) (by kernel_rfl) (by kernel_rfl) ?_
    refine Any.pass 9 at9 rfl rfl (by kernel_rfl) (by kernel_rfl) (by kernel_rfl) ?_
    refine Any.pass 10 at10 rfl rfl (by kernel_rfl) (by kernel_rfl) (by kernel_rfl) ?_
    refine Any.pass 11 at11 rfl rfl (by kernel_rfl) (by kernel_rfl) (by kernel_rfl) ?_
    refine Any.pass 12 at12 rfl rfl (by kernel_rfl) (by kernel_rfl) (by kernel_rfl) ?_
    refine Any.rd0 13 at13 rfl rfl (O.pickT (v := .bool _) rfl rfl) (by kernel_rfl) (by kernel_rfl) (by kernel_rfl) ?_
    refine Any.done (by kernel_rfl) trivial ?_
    refine hK6 ?_
    refine Cd.condT rfl ?_
    refine Cd.seq (fun K8 hK8 => ?_)
    refine Cd.region [0, 1] rfl ?_
    refine Seq.rd0 at0 rfl rfl (O.assign (v := .int .i64 _) rfl) ?_
    refine Seq.rd0 at1 rfl rfl (O.assign (v := .bool _) rfl) ?_
    refine Seq.nil ?_
    refine hK8 ?_
    refine Cd.ret ?_
    exact hR _ _ (Res.two (v := .int .i64 _) (v' := .bool _) rfl rfl rfl) ⟨by unfold blocksT; first | (rw [if_pos (by assumption), if_pos (by assumption)]; done) | (rw [if_pos (by assumption), if_neg (by assumption)]; done) | (rw [if_neg (ne_true_of_eq_false (by assumption))]; done), rfl⟩ (.cons _ (.cons _ (.refl _)))
  · skip
    refine Any.rd0 3 at3 rfl rfl (O.move (v := .pointer _) rfl) (by kernel_rfl) (by kernel_rfl) (by kernel_rfl) ?_
    refine Any.rd0 4 at4 rfl rfl (O.nilP rfl) (by kernel_rfl) (by kernel_rfl) (by kernel_rfl) ?_
    refine Any.rd0 5 at5 rfl rfl (O.field fo_249_0 rfl) (by kernel_rfl) (by kernel_rfl) (by kernel_rfl) ?_
    refine Any.rd1 6 at6 rfl rfl (O.load kd_246 rfl r2_0) htb.cons.cons (by kernel_rfl) (by kernel_rfl) (by kernel_rfl) ?_
    refine Any.rd0 7 at7 rfl rfl (O.move (v := .int .i64 _) rfl) (by kernel_rfl) (by kernel_rfl) (by kernel_rfl) ?_
    refine Any.rd1 8 at8 rfl rfl (O.lookD (ok := false) (encV := evV) (a := ((alook hl k).getD i64z)) evz mp_246 kk_i64 hM1 zo_27 rfl (by exact rfl)) hlm.cons.cons (by kernel_rfl) (by kernel_rfl) (by kernel_rfl) ?_
    refine Any.rd0 9 at9 rfl rfl (O.fieldA pf_27_2 rfl (Entry_stamp _)) (by kernel_rfl) (by kernel_rfl) (by kernel_rfl) ?_
    refine Any.rd1 10 at10 rfl rfl (O.loadA kd_24 rfl (Nat.le_of_ble_eq_true rfl) (Stamp_all _)) Rd.head (by kernel_rfl) (by kernel_rfl) (by kernel_rfl) ?_
    refine Any.one 11 at11 rfl (by kernel_rfl) ⟨⟨⟨trivial, htb.cons.cons⟩, hlm.cons.cons⟩, Rd.head⟩ ?_
    refine Op.callF rfl hb_132 C_stamp_Cmp rfl ?_
    rintro _ _ ⟨rfl, rfl⟩
    refine Any.toK ?_
    refine Any.rd0 12 at12 rfl rfl (O.gtr rfl rfl) (by kernel_rfl) (by kernel_rfl) (by kernel_rfl) ?_
    refine Any.rd0 13 at13 rfl rfl (O.pickF (v := .bool _) rfl rfl) (by kernel_rfl) (by kernel_rfl) (by kernel_rfl) ?_
    refine Any.done (by kernel_rfl) ⟨⟨⟨trivial, htb.cons.cons⟩, hlm.cons.cons⟩, Rd.head⟩ ?_
    refine hK6 ?_
    refine Cd.if ((0 : Int) < (((((alook el ((alook hl k).getD i64z)).getD evz).1).stamp).cmp s)) rfl (fun t9 => ?_) (fun t9 => ?_)
    · skip
      refine Cd.seq (fun K10 hK10 => ?_)
      refine Cd.region [0, 1] rfl ?_
      refine Seq.rd0 at0 rfl rfl (O.assign (v := .int .i64 _) rfl) ?_
      refine Seq.rd0 at1 rfl rfl (O.assign (v := .bool _) rfl) ?_
      refine Seq.nil ?_
      refine hK10 ?_
      refine Cd.ret ?_
      exact hR _ _ (Res.two (v := .int .i64 _) (v' := .bool _) rfl rfl rfl) ⟨by unfold blocksT; first | (rw [if_pos (by assumption), if_pos (by assumption)]; done) | (rw [if_pos (by assumption), if_neg (by assumption)]; done) | (rw [if_neg (ne_true_of_eq_false (by assumption))]; done), rfl⟩ (.cons _ (.cons _ (.refl _)))
    · skip
      refine Cd.skip ?_
      refine hK5 ?_
      refine Cd.seq (fun K11 hK11 => ?_)
      refine Cd.region [0, 1, 2] rfl ?_
      refine Seq.rd0 at0 rfl rfl (O.move (v := .int .i64 _) rfl) ?_
      refine Seq.rd0 at1 rfl rfl (O.assign (v := .int .i64 _) rfl) ?_
      refine Seq.rd0 at2 rfl rfl (O.assign (v := .bool _) rfl) ?_
      refine Seq.nil ?_
      refine hK11 ?_
      refine Cd.ret ?_
      exact hR _ _ (Res.two (v := .int .i64 _) (v' := .bool _) rfl rfl rfl) ⟨by unfold blocksT; first | (rw [if_pos (by assumption), if_pos (by assumption)]; done) | (rw [if_pos (by assumption), if_neg (by assumption)]; done) | (rw [if_neg (ne_true_of_eq_false (by assumption))]; done), rfl⟩ (.cons _ (.cons _ (.refl _)))

end Go.X

namespace Go.X
open Go.Proofs
theorem fo_144_1 : fieldOff Tryz.prog 144 1 = some 1 := by kernel_rfl
theorem fo_144_2 : fieldOff Tryz.prog 144 2 = some 2 := by kernel_rfl
theorem hb_168 : hasBody Tryz.prog 168 = true := by kernel_rfl
theorem hb_96 : hasBody Tryz.prog 96 = true := by kernel_rfl
theorem kd_142 : kindOf Tryz.prog 142 = some (false, 1) := by kernel_rfl
theorem mp_142 : Tryz.prog.underlying 142 = some (.map 2 3) := by kernel_rfl
theorem zo_3 : zeroOf Tryz.prog 3 = some (.int .i64 0) := by kernel_rfl
/-- the entry that a look-up gives -/
def entT (el : List (I64 × EV)) (id : I64) : EV := (alook el id).getD evz
theorem TbAt.ent {c : Cx} {L : List Pt} {tb : Nat} {el : List (I64 × EV)} {hl : List (Key × I64)} (h : TbAt c L tb el hl) (id : I64) :
    SlAt c L Write_enc (entT el id).1.ws.a (entT el id).1.ws.n (entT el id).2 ∧ (entT el id).1.ws.n ≤ 1000000000 := by
  unfold entT
  cases hq : alook el id with
  | none => exact ⟨⟨rfl, by decide, fun h => absurd rfl h⟩, by decide⟩
  | some q =>
    obtain ⟨h1, h2⟩ := h.ws id q hq
    refine ⟨h1, ?_⟩
    have := h1.len
    show q.1.ws.n ≤ _
    omega

set_option maxRecDepth 100000 in
set_option maxHeartbeats 2000000 in
theorem C_prep_Has {c : Cx} {L : List Pt} {tb : Nat} {el : List (I64 × EV)} {hl : List (Key × I64)} (hT : TbAt c L tb el hl) {ti : I64} : Fn Tryz.prog 96 #[.pointer (some ⟨tb, 0, none⟩), .int .i64 ti.1] c L (fun v L' => ∃ av cap Ls, v = .tuple #[.agg (Entry_enc { (entT el ti).1 with ws := ⟨av, (entT el ti).1.ws.n, cap⟩ }), .bool (alook el ti).isSome] ∧ OwnSl 47 18 (rows Write_enc (entT el ti).2) (entT el ti).1.ws.n (.slice av (entT el ti).1.ws.n cap) Ls ∧ L' = Ls ++ L) := by
  obtain ⟨hT1, hT2⟩ := hT.size
  obtain ⟨⟨lm, es1, ck1, hm, es2, ck2, htb, hlm, hM1, hhm, hM2⟩, hws, _⟩ := id hT
  obtain ⟨hE, hEb⟩ := hT.ent ti
  refine Fn.enter Tryz.func96 rfl 20 rfl rfl (fun R hR => ?_)
  refine Cd.seq (fun K1 hK1 => ?_)
  refine Cd.region [0, 1] rfl ?_
  refine Seq.op at0 rfl (Op.new rfl (O.alloc zo_27 (cs := (Entry_enc Entry.zero)) rfl) ?_)
  intro b2 hb2
  refine Seq.rd0 at1 rfl rfl (O.assign (v := .bool _) rfl) ?_
  refine Seq.nil ?_
  refine hK1 ?_
  refine Cd.seq (fun K3 hK3 => ?_)
  refine Cd.region [0, 1, 2, 3, 4, 5, 6, 7, 8, 9, 10, 11] rfl ?_
  refine Seq.rd0 at0 rfl rfl (O.move (v := .pointer _) rfl) ?_
  refine Seq.rd0 at1 rfl rfl (O.nilP rfl) ?_
  refine Seq.rd0 at2 rfl rfl (O.field fo_249_0 rfl) ?_
  refine Seq.rd1 at3 rfl rfl (O.load kd_246 rfl r2_0) htb.cons ?_
  refine Seq.rd0 at4 rfl rfl (O.move (v := .int .i64 _) rfl) ?_
  refine Seq.rd1 at5 rfl rfl (O.lookD (ok := true) (encV := evV) (a := ti) evz mp_246 kk_i64 hM1 zo_27 rfl (by exact rfl)) hlm.cons ?_
  refine Seq.rd0 at6 rfl rfl (O.move (v := .tuple _) rfl) ?_
  refine Seq.rd0 at7 rfl rfl (O.ext rfl r2_0) ?_
  refine Seq.rd0 at8 rfl rfl (O.ext rfl r2_1) ?_
  refine Seq.op at9 rfl (Op.new rfl (O.alloc zo_27 (cs := (Entry_enc Entry.zero)) rfl) ?_)
  intro b4 hb4
  refine Seq.op at10 rfl (Op.set0 rfl (O.store kd_27 rfl (v := .agg _) rfl (Entry_size _) (Entry_room (Entry_size _)) (Entry_one _) (Entry_put _ (Entry_size _))) ?_)
  refine Seq.rd0 at11 rfl rfl (O.assign (v := .bool _) rfl) ?_
  refine Seq.nil ?_
  refine hK3 ?_
  refine Cd.seq (fun K5 hK5 => ?_)
  refine Cd.region [0, 1, 2, 3, 4] rfl ?_
  refine Seq.rd1 at0 rfl rfl (O.loadA kd_27 rfl (Nat.le_of_ble_eq_true rfl) (Entry_all _)) Rd.head ?_
  refine Seq.op at1 rfl (Op.callF rfl hb_168 (C_copied (en := (entT el ti).1) hE.cons.cons hEb) rfl ?_)
  rintro _ _ ⟨av6, cap7, Ls8, rfl, hoLs8, rfl⟩
  refine Ent.perm ?_ (bring (Ls := Ls8) (pre := [(b4, _), (b2, _)]) (R := L)).symm
  refine Seq.rd0 at2 rfl rfl (O.move (v := .bool _) rfl) ?_
  refine Seq.op at3 rfl (Op.set1 rfl (O.store kd_27 rfl (v := .agg _) rfl (Entry_size _) (Entry_room (Entry_size _)) (Entry_one _) (Entry_put _ (Entry_size _))) ?_)
  refine Seq.rd0 at4 rfl rfl (O.assign (v := .bool _) rfl) ?_
  refine Seq.nil ?_
  refine hK5 ?_
  refine Cd.ret ?_
  exact hR _ _ (Res.cell2 (v := .bool _) rfl kd_27 rfl rfl Rd.head.cons rfl) ⟨av6, cap7, Ls8, rfl, hoLs8, rfl⟩ (.cons _ (.cons _ (.refl _)))

/-- what is over -/
def intV' (x : Int) : Value := .int .i64 x
/-- a part that can be read -/
structure PtAt (c : Cx) (L : List Pt) (pb : Nat) (l : List (Key × CV)) (el : List (I64 × EV)) (hl : List (Key × I64)) (ol : List (I64 × Int)) : Prop where
  ex : ∃ sb tb om es ck, Rd c L pb (.cells #[.pointer (some ⟨sb, 0, none⟩), .pointer (some ⟨tb, 0, none⟩), .map (some om)] 144 (0, 0)) ∧ StAt c L sb l ∧ TbAt c L tb el hl ∧ Rd c L om (.map es ck) ∧ MapIs i64V intV es ck ol
theorem PtAt.sub {c : Cx} {L L' : List Pt} {pb : Nat} {l : List (Key × CV)} {el : List (I64 × EV)} {hl : List (Key × I64)} {ol : List (I64 × Int)} (h : PtAt c L pb l el hl ol) (hs : L.Sublist L') : PtAt c L' pb l el hl ol := by
  obtain ⟨⟨sb, tb, om, es, ck, h1, h2, h3, h4, h5⟩⟩ := h
  exact ⟨⟨sb, tb, om, es, ck, h1.sub hs, h2.sub hs, h3.sub hs, h4.sub hs, h5⟩⟩
theorem PtAt.cons {c : Cx} {L : List Pt} {pb : Nat} {l : List (Key × CV)} {el : List (I64 × EV)} {hl : List (Key × I64)} {ol : List (I64 × Int)} {p : Pt} (h : PtAt c L pb l el hl ol) : PtAt c (p :: L) pb l el hl ol := h.sub (List.sublist_cons_self _ _)
theorem PtAt.app {c : Cx} {L G : List Pt} {pb : Nat} {l : List (Key × CV)} {el : List (I64 × EV)} {hl : List (Key × I64)} {ol : List (I64 × Int)} (h : PtAt c L pb l el hl ol) : PtAt c (G ++ L) pb l el hl ol := h.sub (List.sublist_append_right _ _)
/-- what became of a transaction -/
def stateP (ol : List (I64 × Int)) (el : List (I64 × EV)) (ti : I64) : Int := if (alook ol ti).isSome then (alook ol ti).getD 0 else if (alook el ti).isSome then 1 else 0

set_option maxRecDepth 100000 in
set_option maxHeartbeats 2000000 in
theorem C_State {c : Cx} {L : List Pt} {pb : Nat} {l : List (Key × CV)} {el : List (I64 × EV)} {hl : List (Key × I64)} {ol : List (I64 × Int)} (hP : PtAt c L pb l el hl ol) {ti : I64} : Fn Tryz.prog 19 #[.pointer (some ⟨pb, 0, none⟩), .int .i64 ti.1] c L (fun v L' => v = .int .i64 (stateP ol el ti) ∧ L' = L) := by
  obtain ⟨⟨sb, tb, om, eso, cko, hpb, hS, hT, hom, hMo⟩⟩ := id hP
  refine Fn.enter Tryz.func19 rfl 30 rfl rfl (fun R hR => ?_)
  refine Cd.seq (fun K1 hK1 => ?_)
  refine Cd.region [0] rfl ?_
  refine Seq.rd0 at0 rfl rfl (O.assign (v := .int .i64 _) rfl) ?_
  refine Seq.nil ?_
  refine hK1 ?_
  refine Cd.seq (fun K2 hK2 => ?_)
  refine Cd.seq (fun K3 hK3 => ?_)
  refine Cd.region [0, 1, 2, 3, 4, 5, 6, 7, 8, 9, 10] rfl ?_
  refine Seq.rd0 at0 rfl rfl (O.move (v := .pointer _) rfl) ?_
  refine Seq.rd0 at1 rfl rfl (O.nilP rfl) ?_
  refine Seq.rd0 at2 rfl rfl (O.field fo_144_2 rfl) ?_
  refine Seq.rd1 at3 rfl rfl (O.load kd_142 rfl r3_2) hpb ?_
  refine Seq.rd0 at4 rfl rfl (O.move (v := .int .i64 _) rfl) ?_
  refine Seq.rd1 at5 rfl rfl (O.lookD (ok := true) (encV := intV) (a := ti) 0 mp_142 kk_i64 hMo zo_3 rfl (by exact rfl)) hom ?_
  refine Seq.rd0 at6 rfl rfl (O.move (v := .tuple _) rfl) ?_
  refine Seq.rd0 at7 rfl rfl (O.ext rfl r2_0) ?_
  refine Seq.rd0 at8 rfl rfl (O.ext rfl r2_1) ?_
  refine Seq.rd0 at9 rfl rfl (O.assign (v := .int .i64 _) rfl) ?_
  refine Seq.rd0 at10 rfl rfl (O.assign (v := .bool _) rfl) ?_
  refine Seq.nil ?_
  refine hK3 ?_
  refine Cd.seq (fun K4 hK4 => ?_)
  refine Cd.region [0] rfl ?_
  refine Seq.rd0 at0 rfl rfl (O.move (v := .bool _) rfl) ?_
  refine Seq.nil ?_
  refine hK4 ?_
  refine Cd.cond ((alook ol ti).isSome) rfl (fun t5 => ?_) (fun t5 => ?_)
  · skip
    refine Cd.seq (fun K6 hK6 => ?_)
    refine Cd.region [0, 1] rfl ?_
    refine Seq.rd0 at0 rfl rfl (O.move (v := .int .i64 _) rfl) ?_
    refine Seq.rd0 at1 rfl rfl (O.assign (v := .int .i64 _) rfl) ?_
    refine Seq.nil ?_
    refine hK6 ?_
    refine Cd.ret ?_
    exact hR _ _ (Res.one (v := .int .i64 _) rfl rfl) ⟨by unfold stateP; first | (rw [if_pos (by assumption)]; done) | (rw [if_neg (ne_true_of_eq_false (by assumption)), if_pos (by assumption)]; done) | (rw [if_neg (ne_true_of_eq_false (by assumption)), if_neg (ne_true_of_eq_false (by assumption))]; done), rfl⟩ (.refl _)
  · skip
    refine Cd.skip ?_
    refine hK2 ?_
    refine Cd.seq (fun K7 hK7 => ?_)
    refine Cd.seq (fun K8 hK8 => ?_)
    refine Cd.region [0, 1, 2, 3, 4, 5, 6, 7, 8, 9, 10, 11] rfl ?_
    refine Seq.rd0 at0 rfl rfl (O.move (v := .pointer _) rfl) ?_
    refine Seq.rd0 at1 rfl rfl (O.nilP rfl) ?_
    refine Seq.rd0 at2 rfl rfl (O.field fo_144_1 rfl) ?_
    refine Seq.rd1 at3 rfl rfl (O.load kd_140 rfl r3_1) hpb ?_
    refine Seq.rd0 at4 rfl rfl (O.move (v := .int .i64 _) rfl) ?_
    refine Seq.op at5 rfl (Op.callF rfl hb_96 (C_prep_Has hT) rfl ?_)
    rintro _ _ ⟨av9, cap10, Ls11, rfl, hoLs11, rfl⟩
    refine Seq.rd0 at6 rfl rfl (O.move (v := .tuple _) rfl) ?_
    refine Seq.rd0 at7 rfl rfl (O.ext rfl r2_0) ?_
    refine Seq.rd0 at8 rfl rfl (O.ext rfl r2_1) ?_
    refine Seq.op at9 rfl (Op.new rfl (O.alloc zo_27 (cs := (Entry_enc Entry.zero)) rfl) ?_)
    intro b12 hb12
    refine Seq.op at10 rfl (Op.set0 rfl (O.store kd_27 rfl (v := .agg _) rfl (Entry_size _) (Entry_room (Entry_size _)) (Entry_one _) (Entry_put _ (Entry_size _))) ?_)
    refine Seq.rd0 at11 rfl rfl (O.assign (v := .bool _) rfl) ?_
    refine Seq.nil ?_
    refine hK8 ?_
    refine Cd.seq (fun K13 hK13 => ?_)
    refine Cd.region [0] rfl ?_
    refine Seq.rd0 at0 rfl rfl (O.move (v := .bool _) rfl) ?_
    refine Seq.nil ?_
    refine hK13 ?_
    refine Cd.cond ((alook el ti).isSome) rfl (fun t14 => ?_) (fun t14 => ?_)
    · skip
      refine Cd.seq (fun K15 hK15 => ?_)
      refine Cd.region [0] rfl ?_
      refine Seq.rd0 at0 rfl rfl (O.assign (v := .int .i64 _) rfl) ?_
      refine Seq.nil ?_
      refine hK15 ?_
      refine Cd.ret ?_
      exact hR _ _ (Res.one (v := .int .i64 _) rfl rfl) ⟨by unfold stateP; first | (rw [if_pos (by assumption)]; done) | (rw [if_neg (ne_true_of_eq_false (by assumption)), if_pos (by assumption)]; done) | (rw [if_neg (ne_true_of_eq_false (by assumption)), if_neg (ne_true_of_eq_false (by assumption))]; done), rfl⟩ (.cons _ (sub_app (G := Ls11) (.refl _)))
    · skip
      refine Cd.skip ?_
      refine hK7 ?_
      refine Cd.seq (fun K16 hK16 => ?_)
      refine Cd.region [0] rfl ?_
      refine Seq.rd0 at0 rfl rfl (O.assign (v := .int .i64 _) rfl) ?_
      refine Seq.nil ?_
      refine hK16 ?_
      refine Cd.ret ?_
      exact hR _ _ (Res.one (v := .int .i64 _) rfl rfl) ⟨by unfold stateP; first | (rw [if_pos (by assumption)]; done) | (rw [if_neg (ne_true_of_eq_false (by assumption)), if_pos (by assumption)]; done) | (rw [if_neg (ne_true_of_eq_false (by assumption)), if_neg (ne_true_of_eq_false (by assumption))]; done), rfl⟩ (.cons _ (sub_app (G := Ls11) (.refl _)))

end Go.X

namespace Go.X
open Go.Proofs
theorem fo_144_0 : fieldOff Tryz.prog 144 0 = some 0 := by kernel_rfl
theorem hb_100 : hasBody Tryz.prog 100 = true := by kernel_rfl
theorem hb_99 : hasBody Tryz.prog 99 = true := by kernel_rfl
theorem kd_137 : kindOf Tryz.prog 137 = some (false, 1) := by kernel_rfl
/-- what a read gives -/
def readP (l : List (Key × CV)) (el : List (I64 × EV)) (hl : List (Key × I64)) (k : Key) (s : Stamp) (now : Int) : ByteArray × Bool × Int :=
  if goodK k = true ∧ s.good then (if (blocksT el hl k s).2 = true ∨ now < s.t then (⟨#[]⟩, false, 8) else ((getV l k s).1, (getV l k s).2, 0)) else (⟨#[]⟩, false, 1)

set_option maxRecDepth 100000 in
set_option maxHeartbeats 2000000 in
theorem C_Read {c : Cx} {L : List Pt} {pb : Nat} {l : List (Key × CV)} {el : List (I64 × EV)} {hl : List (Key × I64)} {ol : List (I64 × Int)} (hP : PtAt c L pb l el hl ol) {k : Key} {s : Stamp} {now : Int} : Fn Tryz.prog 20 #[.pointer (some ⟨pb, 0, none⟩), .agg (Key_enc k), .agg (Stamp_enc s), .int .i64 now] c L (fun v L' => v = .tuple #[.string (readP l el hl k s now).1, .bool (readP l el hl k s now).2.1, .int .i64 (readP l el hl k s now).2.2] ∧ L' = L) := by
  obtain ⟨⟨sb, tb, om, eso, cko, hpb, hS, hT, hom, hMo⟩⟩ := id hP
  refine Fn.enter Tryz.func20 rfl 52 rfl rfl (fun R hR => ?_)
  refine Cd.seq (fun K1 hK1 => ?_)
  refine Cd.region [0, 1, 2, 3, 4] rfl ?_
  refine Seq.op at0 rfl (Op.new rfl (O.box (v := .agg _) rfl (cs := (Key_enc k)) rfl) ?_)
  intro b2 hb2
  refine Seq.op at1 rfl (Op.new rfl (O.box (v := .agg _) rfl (cs := (Stamp_enc s)) rfl) ?_)
  intro b3 hb3
  refine Seq.rd0 at2 rfl rfl (O.assign (v := .string _) rfl) ?_
  refine Seq.rd0 at3 rfl rfl (O.assign (v := .bool _) rfl) ?_
  refine Seq.rd0 at4 rfl rfl (O.assign (v := .int .i64 _) rfl) ?_
  refine Seq.nil ?_
  refine hK1 ?_
  refine Cd.seq (fun K4 hK4 => ?_)
  refine Cd.seq (fun K5 hK5 => ?_)
  refine Cd.region [0, 1, 2, 3, 4, 5, 6, 7] rfl ?_
  refine Seq.rd1 at0 rfl rfl (O.loadA kd_45 rfl (Nat.le_of_ble_eq_true rfl) (Key_all _)) Rd.head.cons ?_
  refine Seq.op at1 rfl (Op.callF rfl hb_97 C_key_Good rfl ?_)
  rintro _ _ ⟨rfl, rfl⟩
  refine Seq.rd0 at2 rfl rfl (O.not rfl) ?_
  refine Seq.rd0 at3 rfl rfl (O.move (v := .bool _) rfl) ?_
  cases t6 : goodK k
  · skip
    refine Seq.pass at4 rfl rfl ?_
    refine Seq.pass at5 rfl rfl ?_
    refine Seq.pass at6 rfl rfl ?_
    refine Seq.rd0 at7 rfl rfl (O.pickT (v := .bool _) rfl rfl) ?_
    refine Seq.nil ?_
    refine hK5 ?_
    refine Cd.condT rfl ?_
    refine Cd.seq (fun K7 hK7 => ?_)
    refine Cd.region [0, 1, 2] rfl ?_
    refine Seq.rd0 at0 rfl rfl (O.assign (v := .string _) rfl) ?_
    refine Seq.rd0 at1 rfl rfl (O.assign (v := .bool _) rfl) ?_
    refine Seq.rd0 at2 rfl rfl (O.assign (v := .int .i64 _) rfl) ?_
    refine Seq.nil ?_
    refine hK7 ?_
    refine Cd.ret ?_
    have hx : ¬ (goodK k = true ∧ s.good) := (fun h => by simp_all)
    exact hR _ _ (Res.three (v := .string _) (v' := .bool _) (v'' := .int .i64 _) rfl rfl rfl rfl) ⟨by unfold readP; rw [if_neg hx], rfl⟩ (.cons _ (.cons _ (.refl _)))
  · skip
    refine Seq.rd1 at4 rfl rfl (O.loadA kd_24 rfl (Nat.le_of_ble_eq_true rfl) (Stamp_all _)) Rd.head ?_
    refine Seq.op at5 rfl (Op.callF rfl hb_98 C_stamp_Good rfl ?_)
    rintro _ _ ⟨rfl, rfl⟩
    refine Seq.rd0 at6 rfl rfl (O.not rfl) ?_
    refine Seq.rd0 at7 rfl rfl (O.pickF (v := .bool _) rfl rfl) ?_
    refine Seq.nil ?_
    refine hK5 ?_
    refine Cd.cond (!(decide (s).good)) rfl (fun t8 => ?_) (fun t8 => ?_)
    · skip
      refine Cd.seq (fun K9 hK9 => ?_)
      refine Cd.region [0, 1, 2] rfl ?_
      refine Seq.rd0 at0 rfl rfl (O.assign (v := .string _) rfl) ?_
      refine Seq.rd0 at1 rfl rfl (O.assign (v := .bool _) rfl) ?_
      refine Seq.rd0 at2 rfl rfl (O.assign (v := .int .i64 _) rfl) ?_
      refine Seq.nil ?_
      refine hK9 ?_
      refine Cd.ret ?_
      have hx : ¬ (goodK k = true ∧ s.good) := (fun h => by simp_all)
      exact hR _ _ (Res.three (v := .string _) (v' := .bool _) (v'' := .int .i64 _) rfl rfl rfl rfl) ⟨by unfold readP; rw [if_neg hx], rfl⟩ (.cons _ (.cons _ (.refl _)))
    · skip
      refine Cd.skip ?_
      refine hK4 ?_
      refine Cd.seq (fun K10 hK10 => ?_)
      refine Cd.seq (fun K11 hK11 => ?_)
      refine Cd.draw 12 rfl po ?_
      refine Any.rd0 0 at0 rfl rfl (O.move (v := .pointer _) rfl) (by kernel_rfl) (by kernel_rfl) (by kernel_rfl) ?_
      refine Any.rd0 1 at1 rfl rfl (O.nilP rfl) (by kernel_rfl) (by kernel_rfl) (by kernel_rfl) ?_
      refine Any.rd0 2 at2 rfl rfl (O.field fo_144_1 rfl) (by kernel_rfl) (by kernel_rfl) (by kernel_rfl) ?_
      refine Any.rd1 3 at3 rfl rfl (O.load kd_140 rfl r3_1) hpb.cons.cons (by kernel_rfl) (by kernel_rfl) (by kernel_rfl) ?_
      refine Any.rd1 4 at4 rfl rfl (O.loadA kd_45 rfl (Nat.le_of_ble_eq_true rfl) (Key_all _)) Rd.head.cons (by kernel_rfl) (by kernel_rfl) (by kernel_rfl) ?_
      refine Any.rd1 5 at5 rfl rfl (O.loadA kd_24 rfl (Nat.le_of_ble_eq_true rfl) (Stamp_all _)) Rd.head (by kernel_rfl) (by kernel_rfl) (by kernel_rfl) ?_
      refine Any.one 6 at6 rfl (by kernel_rfl) ⟨⟨⟨trivial, hpb.cons.cons⟩, Rd.head.cons⟩, Rd.head⟩ ?_
      refine Op.callF rfl hb_99 (C_Blocks hT.cons.cons) rfl ?_
      rintro _ _ ⟨rfl, rfl⟩
      refine Any.toK ?_
      refine Any.rd0 7 at7 rfl rfl (O.move (v := .tuple _) rfl) (by kernel_rfl) (by kernel_rfl) (by kernel_rfl) ?_
      refine Any.rd0 8 at8 rfl rfl (O.ext rfl r2_0) (by kernel_rfl) (by kernel_rfl) (by kernel_rfl) ?_
      refine Any.rd0 9 at9 rfl rfl (O.ext rfl r2_1) (by kernel_rfl) (by kernel_rfl) (by kernel_rfl) ?_
      refine Any.rd0 10 at10 rfl rfl (O.assign (v := .int .i64 _) rfl) (by kernel_rfl) (by kernel_rfl) (by kernel_rfl) ?_
      refine Any.rd0 11 at11 rfl rfl (O.assign (v := .bool _) rfl) (by kernel_rfl) (by kernel_rfl) (by kernel_rfl) ?_
      refine Any.done (by kernel_rfl) ⟨⟨⟨trivial, hpb.cons.cons⟩, Rd.head.cons⟩, Rd.head⟩ ?_
      refine hK11 ?_
      refine Cd.seq (fun K12 hK12 => ?_)
      refine Cd.region [0, 1, 2, 3, 4, 5, 6] rfl ?_
      refine Seq.rd0 at0 rfl rfl (O.move (v := .bool _) rfl) ?_
      refine Seq.rd0 at1 rfl rfl (O.move (v := .bool _) rfl) ?_
      cases t13 : (blocksT el hl k s).2
      · skip
        refine Seq.rd0 at2 rfl rfl (O.move (v := .int .i64 _) rfl) ?_
        refine Seq.rd0 at3 rfl rfl (O.field fo_24_0 rfl) ?_
        refine Seq.rd1 at4 rfl rfl (O.load kd_2 rfl (Stamp_t _)) Rd.head ?_
        refine Seq.rd0 at5 rfl rfl (O.lss rfl rfl) ?_
        refine Seq.rd0 at6 rfl rfl (O.pickF (v := .bool _) rfl rfl) ?_
        refine Seq.nil ?_
        refine hK12 ?_
        refine Cd.if (now < s.t) rfl (fun t14 => ?_) (fun t14 => ?_)
        · skip
          refine Cd.seq (fun K15 hK15 => ?_)
          refine Cd.region [0, 1, 2] rfl ?_
          refine Seq.rd0 at0 rfl rfl (O.assign (v := .string _) rfl) ?_
          refine Seq.rd0 at1 rfl rfl (O.assign (v := .bool _) rfl) ?_
          refine Seq.rd0 at2 rfl rfl (O.assign (v := .int .i64 _) rfl) ?_
          refine Seq.nil ?_
          refine hK15 ?_
          refine Cd.ret ?_
          have hgd : s.good := by simp_all
          have hx : (blocksT el hl k s).2 = true ∨ now < s.t := (by first | exact .inl (by assumption) | exact .inr (by assumption))
          exact hR _ _ (Res.three (v := .string _) (v' := .bool _) (v'' := .int .i64 _) rfl rfl rfl rfl) ⟨by unfold readP; rw [if_pos ⟨by assumption, hgd⟩, if_pos hx], rfl⟩ (.cons _ (.cons _ (.refl _)))
        · skip
          refine Cd.skip ?_
          refine hK10 ?_
          refine Cd.seq (fun K16 hK16 => ?_)
          refine Cd.draw 12 rfl po ?_
          refine Any.rd0 0 at0 rfl rfl (O.move (v := .pointer _) rfl) (by kernel_rfl) (by kernel_rfl) (by kernel_rfl) ?_
          refine Any.rd0 1 at1 rfl rfl (O.nilP rfl) (by kernel_rfl) (by kernel_rfl) (by kernel_rfl) ?_
          refine Any.rd0 2 at2 rfl rfl (O.field fo_144_0 rfl) (by kernel_rfl) (by kernel_rfl) (by kernel_rfl) ?_
          refine Any.rd1 3 at3 rfl rfl (O.load kd_137 rfl r3_0) hpb.cons.cons (by kernel_rfl) (by kernel_rfl) (by kernel_rfl) ?_
          refine Any.rd1 4 at4 rfl rfl (O.loadA kd_45 rfl (Nat.le_of_ble_eq_true rfl) (Key_all _)) Rd.head.cons (by kernel_rfl) (by kernel_rfl) (by kernel_rfl) ?_
          refine Any.rd1 5 at5 rfl rfl (O.loadA kd_24 rfl (Nat.le_of_ble_eq_true rfl) (Stamp_all _)) Rd.head (by kernel_rfl) (by kernel_rfl) (by kernel_rfl) ?_
          refine Any.one 6 at6 rfl (by kernel_rfl) ⟨⟨⟨trivial, hpb.cons.cons⟩, Rd.head.cons⟩, Rd.head⟩ ?_
          refine Op.callF rfl hb_100 (C_store_Get hS.cons.cons) rfl ?_
          rintro _ _ ⟨rfl, rfl⟩
          refine Any.toK ?_
          refine Any.rd0 7 at7 rfl rfl (O.move (v := .tuple _) rfl) (by kernel_rfl) (by kernel_rfl) (by kernel_rfl) ?_
          refine Any.rd0 8 at8 rfl rfl (O.ext rfl r2_0) (by kernel_rfl) (by kernel_rfl) (by kernel_rfl) ?_
          refine Any.rd0 9 at9 rfl rfl (O.ext rfl r2_1) (by kernel_rfl) (by kernel_rfl) (by kernel_rfl) ?_
          refine Any.rd0 10 at10 rfl rfl (O.assign (v := .string _) rfl) (by kernel_rfl) (by kernel_rfl) (by kernel_rfl) ?_
          refine Any.rd0 11 at11 rfl rfl (O.assign (v := .bool _) rfl) (by kernel_rfl) (by kernel_rfl) (by kernel_rfl) ?_
          refine Any.done (by kernel_rfl) ⟨⟨⟨trivial, hpb.cons.cons⟩, Rd.head.cons⟩, Rd.head⟩ ?_
          refine hK16 ?_
          refine Cd.seq (fun K17 hK17 => ?_)
          refine Cd.region [0, 1, 2, 3, 4] rfl ?_
          refine Seq.rd0 at0 rfl rfl (O.move (v := .string _) rfl) ?_
          refine Seq.rd0 at1 rfl rfl (O.move (v := .bool _) rfl) ?_
          refine Seq.rd0 at2 rfl rfl (O.assign (v := .string _) rfl) ?_
          refine Seq.rd0 at3 rfl rfl (O.assign (v := .bool _) rfl) ?_
          refine Seq.rd0 at4 rfl rfl (O.assign (v := .int .i64 _) rfl) ?_
          refine Seq.nil ?_
          refine hK17 ?_
          refine Cd.ret ?_
          have hgd : s.good := by simp_all
          have hx : ¬ ((blocksT el hl k s).2 = true ∨ now < s.t) := (fun h => h.elim (fun h => by simp_all) (fun h => absurd h (by assumption)))
          exact hR _ _ (Res.three (v := .string _) (v' := .bool _) (v'' := .int .i64 _) rfl rfl rfl rfl) ⟨by unfold readP; rw [if_pos ⟨by assumption, hgd⟩, if_neg hx], rfl⟩ (.cons _ (.cons _ (.refl _)))
      · skip
        refine Seq.pass at2 rfl rfl ?_
        refine Seq.pass at3 rfl rfl ?_
        refine Seq.pass at4 rfl rfl ?_
        refine Seq.pass at5 rfl rfl ?_
        refine Seq.rd0 at6 rfl rfl (O.pickT (v := .bool _) rfl rfl) ?_
        refine Seq.nil ?_
        refine hK12 ?_
        refine Cd.condT rfl ?_
        refine Cd.seq (fun K18 hK18 => ?_)
        refine Cd.region [0, 1, 2] rfl ?_
        refine Seq.rd0 at0 rfl rfl (O.assign (v := .string _) rfl) ?_
        refine Seq.rd0 at1 rfl rfl (O.assign (v := .bool _) rfl) ?_
        refine Seq.rd0 at2 rfl rfl (O.assign (v := .int .i64 _) rfl) ?_
        refine Seq.nil ?_
        refine hK18 ?_
        refine Cd.ret ?_
        have hgd : s.good := by simp_all
        have hx : (blocksT el hl k s).2 = true ∨ now < s.t := (by first | exact .inl (by assumption) | exact .inr (by assumption))
        exact hR _ _ (Res.three (v := .string _) (v' := .bool _) (v'' := .int .i64 _) rfl rfl rfl rfl) ⟨by unfold readP; rw [if_pos ⟨by assumption, hgd⟩, if_pos hx], rfl⟩ (.cons _ (.cons _ (.refl _)))

end Go.X

namespace Go.X
open Go.Proofs
theorem hb_131 : hasBody Tryz.prog 131 = true := by kernel_rfl
theorem hb_166 : hasBody Tryz.prog 166 = true := by kernel_rfl
theorem hb_19 : hasBody Tryz.prog 19 = true := by kernel_rfl
theorem kd_30 : kindOf Tryz.prog 30 = some (false, 1) := by kernel_rfl
/-- is a key's newest version above a stamp? -/
def aboveS (l : List (Key × CV)) (s : Stamp) (x : Write) : Bool := (newestV (getS l x.key)).isSome && decide (0 < ((newestV (getS l x.key)).getD .zero).stamp.cmp s)
def conflictP (l : List (Key × CV)) (hl : List (Key × I64)) (s : Stamp) (ws : List Write) : Bool := (ws.any fun x => (alook hl x.key).isSome) || ws.any (aboveS l s)

set_option maxRecDepth 100000 in
set_option maxHeartbeats 2000000 in
theorem C_conflict1 {c : Cx} {L : List Pt} {pb : Nat} {l : List (Key × CV)} {el : List (I64 × EV)} {hl : List (Key × I64)} {ol : List (I64 × Int)} (hP : PtAt c L pb l el hl ol) {bp be : Nat} {x : Write} {en : Entry} (hbp : Rd c L bp (.cells #[.pointer (some ⟨pb, 0, none⟩)] 30 (0, 0))) (hbe : Rd c L be (.cells (Entry_enc en) 27 (0, 0))) : Fn Tryz.prog 220 #[.agg (Write_enc x), .pointer (some ⟨bp, 0, none⟩), .pointer (some ⟨be, 0, none⟩)] c L (fun v L' => v = .bool (aboveS l en.snap x) ∧ L' = L) := by
  obtain ⟨⟨sb, tb, om, eso, cko, hpb, hS, hT, hom, hMo⟩⟩ := id hP
  refine Fn.enter Tryz.func220 rfl 25 rfl rfl (fun R hR => ?_)
  refine Cd.seq (fun K1 hK1 => ?_)
  refine Cd.region [0, 1] rfl ?_
  refine Seq.op at0 rfl (Op.new rfl (O.box (v := .agg _) rfl (cs := (Write_enc x)) rfl) ?_)
  intro b2 hb2
  refine Seq.rd0 at1 rfl rfl (O.assign (v := .bool _) rfl) ?_
  refine Seq.nil ?_
  refine hK1 ?_
  refine Cd.seq (fun K3 hK3 => ?_)
  refine Cd.draw 13 rfl po ?_
  refine Any.rd1 0 at0 rfl rfl (O.load kd_30 rfl r1_0) hbp.cons (by kernel_rfl) (by kernel_rfl) (by kernel_rfl) ?_
  refine Any.rd0 1 at1 rfl rfl (O.nilP rfl) (by kernel_rfl) (by kernel_rfl) (by kernel_rfl) ?_
  refine Any.rd0 2 at2 rfl rfl (O.field fo_144_0 rfl) (by kernel_rfl) (by kernel_rfl) (by kernel_rfl) ?_
  refine Any.rd1 3 at3 rfl rfl (O.load kd_137 rfl r3_0) hpb.cons (by kernel_rfl) (by kernel_rfl) (by kernel_rfl) ?_
  refine Any.rd0 4 at4 rfl rfl (O.field fo_47_0 rfl) (by kernel_rfl) (by kernel_rfl) (by kernel_rfl) ?_
  refine Any.rd1 5 at5 rfl rfl (O.loadA kd_45 rfl (Nat.le_of_ble_eq_true rfl) (Write_key _)) Rd.head (by kernel_rfl) (by kernel_rfl) (by kernel_rfl) ?_
  refine Any.two 6 10 at6 at10 rfl rfl (by kernel_rfl) ⟨⟨⟨trivial, hbp.cons⟩, hpb.cons⟩, Rd.head⟩ ?_ ?_
  · skip
    refine Op.callF rfl hb_131 (C_store_Newest hS.cons) rfl ?_
    rintro _ _ ⟨rfl, rfl⟩
    refine Any.toK ?_
    refine Any.rd0 7 at7 rfl rfl (O.move (v := .tuple _) rfl) (by kernel_rfl) (by kernel_rfl) (by kernel_rfl) ?_
    refine Any.rd0 8 at8 rfl rfl (O.ext rfl r2_0) (by kernel_rfl) (by kernel_rfl) (by kernel_rfl) ?_
    refine Any.rd0 9 at9 rfl rfl (O.ext rfl r2_1) (by kernel_rfl) (by kernel_rfl) (by kernel_rfl) ?_
    refine Any.one 10 at10 rfl (by kernel_rfl) ⟨⟨⟨trivial, hbp.cons⟩, hpb.cons⟩, Rd.head⟩ ?_
    refine Op.new rfl (O.alloc zo_24 (cs := (Stamp_enc Stamp.zero)) rfl) ?_
    intro b4 hb4
    refine Any.toK ?_
    refine Any.one 11 at11 rfl (by kernel_rfl) ⟨⟨⟨trivial, hbp.cons.cons⟩, hpb.cons.cons⟩, Rd.head.cons⟩ ?_
    refine Op.set0 rfl (O.store kd_24 rfl (v := .agg _) rfl (Stamp_size _) (Stamp_room (Stamp_size _)) (Stamp_one _) (Stamp_put _ (Stamp_size _))) ?_
    refine Any.toK ?_
    refine Any.rd0 12 at12 rfl rfl (O.assign (v := .bool _) rfl) (by kernel_rfl) (by kernel_rfl) (by kernel_rfl) ?_
    refine Any.done (by kernel_rfl) ⟨⟨⟨trivial, hbp.cons.cons⟩, hpb.cons.cons⟩, Rd.head.cons⟩ ?_
    refine hK3 ?_
    refine Cd.seq (fun K5 hK5 => ?_)
    refine Cd.region [0, 1, 2, 3, 4, 5, 6, 7, 8] rfl ?_
    refine Seq.rd0 at0 rfl rfl (O.move (v := .bool _) rfl) ?_
    refine Seq.rd0 at1 rfl rfl (O.move (v := .bool _) rfl) ?_
    cases t6 : (newestV (getS l x.key)).isSome
    · skip
      refine Seq.pass at2 rfl rfl ?_
      refine Seq.pass at3 rfl rfl ?_
      refine Seq.pass at4 rfl rfl ?_
      refine Seq.pass at5 rfl rfl ?_
      refine Seq.pass at6 rfl rfl ?_
      refine Seq.rd0 at7 rfl rfl (O.pickF (v := .bool _) rfl rfl) ?_
      refine Seq.rd0 at8 rfl rfl (O.assign (v := .bool _) rfl) ?_
      refine Seq.nil ?_
      refine hK5 ?_
      refine Cd.ret ?_
      exact hR _ _ (Res.one (v := .bool _) rfl rfl) ⟨by unfold aboveS; simp_all, rfl⟩ (.cons _ (.cons _ (.refl _)))
    · skip
      refine Seq.rd1 at2 rfl rfl (O.loadA kd_24 rfl (Nat.le_of_ble_eq_true rfl) (Stamp_all _)) Rd.head ?_
      refine Seq.rd0 at3 rfl rfl (O.field fo_27_1 rfl) ?_
      refine Seq.rd1 at4 rfl rfl (O.loadA kd_24 rfl (Nat.le_of_ble_eq_true rfl) (Entry_snap _)) hbe.cons.cons ?_
      refine Seq.op at5 rfl (Op.callF rfl hb_132 C_stamp_Cmp rfl ?_)
      rintro _ _ ⟨rfl, rfl⟩
      refine Seq.rd0 at6 rfl rfl (O.gtr rfl rfl) ?_
      refine Seq.rd0 at7 rfl rfl (O.pickT (v := .bool _) rfl rfl) ?_
      refine Seq.rd0 at8 rfl rfl (O.assign (v := .bool _) rfl) ?_
      refine Seq.nil ?_
      refine hK5 ?_
      refine Cd.ret ?_
      exact hR _ _ (Res.one (v := .bool _) rfl rfl) ⟨by unfold aboveS; simp_all, rfl⟩ (.cons _ (.cons _ (.refl _)))
  · skip
    refine Op.new rfl (O.alloc zo_24 (cs := (Stamp_enc Stamp.zero)) rfl) ?_
    intro b7 hb7
    refine Any.toK ?_
    refine Any.one 6 at6 rfl (by kernel_rfl) ⟨⟨⟨trivial, hbp.cons.cons⟩, hpb.cons.cons⟩, Rd.head.cons⟩ ?_
    refine Op.callF rfl hb_131 (C_store_Newest hS.cons.cons) rfl ?_
    rintro _ _ ⟨rfl, rfl⟩
    refine Any.toK ?_
    refine Any.rd0 7 at7 rfl rfl (O.move (v := .tuple _) rfl) (by kernel_rfl) (by kernel_rfl) (by kernel_rfl) ?_
    refine Any.rd0 8 at8 rfl rfl (O.ext rfl r2_0) (by kernel_rfl) (by kernel_rfl) (by kernel_rfl) ?_
    refine Any.rd0 9 at9 rfl rfl (O.ext rfl r2_1) (by kernel_rfl) (by kernel_rfl) (by kernel_rfl) ?_
    refine Any.one 11 at11 rfl (by kernel_rfl) ⟨⟨⟨trivial, hbp.cons.cons⟩, hpb.cons.cons⟩, Rd.head.cons⟩ ?_
    refine Op.set0 rfl (O.store kd_24 rfl (v := .agg _) rfl (Stamp_size _) (Stamp_room (Stamp_size _)) (Stamp_one _) (Stamp_put _ (Stamp_size _))) ?_
    refine Any.toK ?_
    refine Any.rd0 12 at12 rfl rfl (O.assign (v := .bool _) rfl) (by kernel_rfl) (by kernel_rfl) (by kernel_rfl) ?_
    refine Any.done (by kernel_rfl) ⟨⟨⟨trivial, hbp.cons.cons⟩, hpb.cons.cons⟩, Rd.head.cons⟩ ?_
    refine hK3 ?_
    refine Cd.seq (fun K8 hK8 => ?_)
    refine Cd.region [0, 1, 2, 3, 4, 5, 6, 7, 8] rfl ?_
    refine Seq.rd0 at0 rfl rfl (O.move (v := .bool _) rfl) ?_
    refine Seq.rd0 at1 rfl rfl (O.move (v := .bool _) rfl) ?_
    cases t9 : (newestV (getS l x.key)).isSome
    · skip
      refine Seq.pass at2 rfl rfl ?_
      refine Seq.pass at3 rfl rfl ?_
      refine Seq.pass at4 rfl rfl ?_
      refine Seq.pass at5 rfl rfl ?_
      refine Seq.pass at6 rfl rfl ?_
      refine Seq.rd0 at7 rfl rfl (O.pickF (v := .bool _) rfl rfl) ?_
      refine Seq.rd0 at8 rfl rfl (O.assign (v := .bool _) rfl) ?_
      refine Seq.nil ?_
      refine hK8 ?_
      refine Cd.ret ?_
      exact hR _ _ (Res.one (v := .bool _) rfl rfl) ⟨by unfold aboveS; simp_all, rfl⟩ (.cons _ (.cons _ (.refl _)))
    · skip
      refine Seq.rd1 at2 rfl rfl (O.loadA kd_24 rfl (Nat.le_of_ble_eq_true rfl) (Stamp_all _)) Rd.head ?_
      refine Seq.rd0 at3 rfl rfl (O.field fo_27_1 rfl) ?_
      refine Seq.rd1 at4 rfl rfl (O.loadA kd_24 rfl (Nat.le_of_ble_eq_true rfl) (Entry_snap _)) hbe.cons.cons ?_
      refine Seq.op at5 rfl (Op.callF rfl hb_132 C_stamp_Cmp rfl ?_)
      rintro _ _ ⟨rfl, rfl⟩
      refine Seq.rd0 at6 rfl rfl (O.gtr rfl rfl) ?_
      refine Seq.rd0 at7 rfl rfl (O.pickT (v := .bool _) rfl rfl) ?_
      refine Seq.rd0 at8 rfl rfl (O.assign (v := .bool _) rfl) ?_
      refine Seq.nil ?_
      refine hK8 ?_
      refine Cd.ret ?_
      exact hR _ _ (Res.one (v := .bool _) rfl rfl) ⟨by unfold aboveS; simp_all, rfl⟩ (.cons _ (.cons _ (.refl _)))

set_option maxRecDepth 100000 in
set_option maxHeartbeats 2000000 in
theorem C_conflict {c : Cx} {L : List Pt} {pb : Nat} {l : List (Key × CV)} {el : List (I64 × EV)} {hl : List (Key × I64)} {ol : List (I64 × Int)} (hP : PtAt c L pb l el hl ol) {en : Entry} {ws : List Write} (hE : SlAt c L Write_enc en.ws.a en.ws.n ws) : Fn Tryz.prog 164 #[.pointer (some ⟨pb, 0, none⟩), .agg (Entry_enc en)] c L (fun v L' => v = .bool (conflictP l hl en.snap ws) ∧ L' = L) := by
  obtain ⟨⟨sb, tb, om, eso, cko, hpb, hS, hT, hom, hMo⟩⟩ := id hP
  refine Fn.enter Tryz.func164 rfl 18 rfl rfl (fun R hR => ?_)
  refine Cd.seq (fun K1 hK1 => ?_)
  refine Cd.region [0, 1, 2] rfl ?_
  refine Seq.op at0 rfl (Op.new rfl (O.box (v := .pointer _) rfl rfl) ?_)
  intro b2 hb2
  refine Seq.op at1 rfl (Op.new rfl (O.box (v := .agg _) rfl (cs := (Entry_enc en)) rfl) ?_)
  intro b3 hb3
  refine Seq.rd0 at2 rfl rfl (O.assign (v := .bool _) rfl) ?_
  refine Seq.nil ?_
  refine hK1 ?_
  refine Cd.seq (fun K4 hK4 => ?_)
  refine Cd.draw 14 rfl po ?_
  refine Any.rd1 0 at0 rfl rfl (O.load kd_30 rfl r1_0) Rd.head.cons (by kernel_rfl) (by kernel_rfl) (by kernel_rfl) ?_
  refine Any.rd0 1 at1 rfl rfl (O.nilP rfl) (by kernel_rfl) (by kernel_rfl) (by kernel_rfl) ?_
  refine Any.rd0 2 at2 rfl rfl (O.field fo_144_1 rfl) (by kernel_rfl) (by kernel_rfl) (by kernel_rfl) ?_
  refine Any.rd1 3 at3 rfl rfl (O.load kd_140 rfl r3_1) hpb.cons.cons (by kernel_rfl) (by kernel_rfl) (by kernel_rfl) ?_
  refine Any.rd0 4 at4 rfl rfl (O.field fo_27_3 rfl) (by kernel_rfl) (by kernel_rfl) (by kernel_rfl) ?_
  refine Any.rd1 5 at5 rfl rfl (O.load kd_25 rfl (Entry_ws _)) Rd.head (by kernel_rfl) (by kernel_rfl) (by kernel_rfl) ?_
  refine Any.one 6 at6 rfl (by kernel_rfl) ⟨⟨⟨trivial, Rd.head.cons⟩, hpb.cons.cons⟩, Rd.head⟩ ?_
  refine Op.callF rfl hb_166 (C_Held (hT.cons.cons) (hE.cons.cons)) rfl ?_
  rintro _ _ ⟨rfl, rfl⟩
  refine Any.toK ?_
  refine Any.rd0 7 at7 rfl rfl (O.move (v := .bool _) rfl) (by kernel_rfl) (by kernel_rfl) (by kernel_rfl) ?_
  cases t5 : (ws.any fun x => (alook hl x.key).isSome)
  · skip
    refine Any.rd0 8 at8 rfl rfl (O.field fo_27_3 rfl) (by kernel_rfl) (by kernel_rfl) (by kernel_rfl) ?_
    refine Any.rd1 9 at9 rfl rfl (O.load kd_25 rfl (Entry_ws _)) Rd.head (by kernel_rfl) (by kernel_rfl) (by kernel_rfl) ?_
    refine Any.rd0 10 at10 rfl rfl (O.mkFunc (fs' := #[]) (cs' := #[.pointer (some ⟨b2, 0, none⟩), .pointer (some ⟨b3, 0, none⟩)]) (by kernel_rfl) (by kernel_rfl)) (by kernel_rfl) (by kernel_rfl) (by kernel_rfl) ?_
    refine Any.one 11 at11 rfl (by kernel_rfl) ⟨⟨⟨⟨trivial, Rd.head.cons⟩, hpb.cons.cons⟩, Rd.head⟩, Rd.head⟩ ?_
    refine Op.callF rfl hb_219 (C_ContainsFunc (p := aboveS l en.snap) (hE.cons.cons) ⟨by kernel_rfl, fun x L2 hs => C_conflict1 ((hP.cons.cons).sub hs) ((Rd.head.cons).sub hs) ((Rd.head).sub hs)⟩) rfl ?_
    rintro _ _ ⟨rfl, rfl⟩
    refine Any.toK ?_
    refine Any.rd0 12 at12 rfl rfl (O.pickF (v := .bool _) rfl rfl) (by kernel_rfl) (by kernel_rfl) (by kernel_rfl) ?_
    refine Any.rd0 13 at13 rfl rfl (O.assign (v := .bool _) rfl) (by kernel_rfl) (by kernel_rfl) (by kernel_rfl) ?_
    refine Any.done (by kernel_rfl) ⟨⟨⟨⟨trivial, Rd.head.cons⟩, hpb.cons.cons⟩, Rd.head⟩, Rd.head⟩ ?_
    refine hK4 ?_
    refine Cd.ret ?_
    exact hR _ _ (Res.one (v := .bool _) rfl rfl) ⟨by unfold conflictP; simp_all, rfl⟩ (.cons _ (.cons _ (.refl _)))
  · skip
    refine Any.pass 8 at8 rfl rfl (by kernel_rfl) (by kernel_rfl) (by kernel_rfl) ?_
    refine Any.pass 9 at9 rfl rfl (by kernel_rfl) (by kernel_rfl) (by kernel_rfl) ?_
    refine Any.pass 10 at10 rfl rfl (by kernel_rfl) (by kernel_rfl) (by kernel_rfl) ?_
    refine Any.pass 11 at11 rfl rfl (by kernel_rfl) (by kernel_rfl) (by kernel_rfl) ?_
    refine Any.rd0 12 at12 rfl rfl (O.pickT (v := .bool _) rfl rfl) (by kernel_rfl) (by kernel_rfl) (by kernel_rfl) ?_
    refine Any.rd0 13 at13 rfl rfl (O.assign (v := .bool _) rfl) (by kernel_rfl) (by kernel_rfl) (by kernel_rfl) ?_
    refine Any.done (by kernel_rfl) ⟨⟨⟨trivial, Rd.head.cons⟩, hpb.cons.cons⟩, Rd.head⟩ ?_
    refine hK4 ?_
    refine Cd.ret ?_
    exact hR _ _ (Res.one (v := .bool _) rfl rfl) ⟨by unfold conflictP; simp_all, rfl⟩ (.cons _ (.cons _ (.refl _)))

def canAbortP (ol : List (I64 × Int)) (el : List (I64 × EV)) (ti : I64) : Int := if ti.1 < 1 then 1 else if stateP ol el ti = 2 then 10 else 0

set_option maxRecDepth 100000 in
set_option maxHeartbeats 2000000 in
theorem C_CanAbort {c : Cx} {L : List Pt} {pb : Nat} {l : List (Key × CV)} {el : List (I64 × EV)} {hl : List (Key × I64)} {ol : List (I64 × Int)} (hP : PtAt c L pb l el hl ol) {ti : I64} : Fn Tryz.prog 95 #[.pointer (some ⟨pb, 0, none⟩), .int .i64 ti.1] c L (fun v L' => v = .int .i64 (canAbortP ol el ti) ∧ L' = L) := by
  obtain ⟨⟨sb, tb, om, eso, cko, hpb, hS, hT, hom, hMo⟩⟩ := id hP
  refine Fn.enter Tryz.func95 rfl 13 rfl rfl (fun R hR => ?_)
  refine Cd.seq (fun K1 hK1 => ?_)
  refine Cd.region [0] rfl ?_
  refine Seq.rd0 at0 rfl rfl (O.assign (v := .int .i64 _) rfl) ?_
  refine Seq.nil ?_
  refine hK1 ?_
  refine Cd.seq (fun K2 hK2 => ?_)
  refine Cd.block ?_
  refine Cd.seq (fun K3 hK3 => ?_)
  refine Cd.region [0, 1, 2] rfl ?_
  refine Seq.rd0 at0 rfl rfl (O.move (v := .int .i64 _) rfl) ?_
  refine Seq.rd0 at1 rfl rfl (O.lss rfl rfl) ?_
  refine Seq.rd0 at2 rfl rfl (O.assign (v := .bool _) rfl) ?_
  refine Seq.nil ?_
  refine hK3 ?_
  refine Cd.if (ti.1 < 1) rfl (fun t4 => ?_) (fun t4 => ?_)
  · skip
    refine Cd.seq (fun K5 hK5 => ?_)
    refine Cd.region [0] rfl ?_
    refine Seq.rd0 at0 rfl rfl (O.assign (v := .int .i64 _) rfl) ?_
    refine Seq.nil ?_
    refine hK5 ?_
    refine Cd.ret ?_
    exact hR _ _ (Res.one (v := .int .i64 _) rfl rfl) ⟨by unfold canAbortP; first | (rw [if_pos (by assumption)]; done) | (rw [if_neg (by assumption), if_pos (by assumption)]; done) | (rw [if_neg (by assumption), if_neg (by assumption)]; done), rfl⟩ (.refl _)
  · skip
    refine Cd.seq (fun K6 hK6 => ?_)
    refine Cd.region [0, 1, 2, 3, 4] rfl ?_
    refine Seq.rd0 at0 rfl rfl (O.move (v := .pointer _) rfl) ?_
    refine Seq.rd0 at1 rfl rfl (O.move (v := .int .i64 _) rfl) ?_
    refine Seq.op at2 rfl (Op.callF rfl hb_19 (C_State (hP)) rfl ?_)
    rintro _ _ ⟨rfl, rfl⟩
    refine Seq.rd0 at3 rfl rfl (O.eqI rfl rfl) ?_
    refine Seq.rd0 at4 rfl rfl (O.assign (v := .bool _) rfl) ?_
    refine Seq.nil ?_
    refine hK6 ?_
    refine Cd.if ((stateP ol el ti) = 2) rfl (fun t7 => ?_) (fun t7 => ?_)
    · skip
      refine Cd.seq (fun K8 hK8 => ?_)
      refine Cd.region [0] rfl ?_
      refine Seq.rd0 at0 rfl rfl (O.assign (v := .int .i64 _) rfl) ?_
      refine Seq.nil ?_
      refine hK8 ?_
      refine Cd.ret ?_
      exact hR _ _ (Res.one (v := .int .i64 _) rfl rfl) ⟨by unfold canAbortP; first | (rw [if_pos (by assumption)]; done) | (rw [if_neg (by assumption), if_pos (by assumption)]; done) | (rw [if_neg (by assumption), if_neg (by assumption)]; done), rfl⟩ (.refl _)
    · skip
      refine Cd.skip ?_
      refine hK2 ?_
      refine Cd.seq (fun K9 hK9 => ?_)
      refine Cd.region [0] rfl ?_
      refine Seq.rd0 at0 rfl rfl (O.assign (v := .int .i64 _) rfl) ?_
      refine Seq.nil ?_
      refine hK9 ?_
      refine Cd.ret ?_
      exact hR _ _ (Res.one (v := .int .i64 _) rfl rfl) ⟨by unfold canAbortP; first | (rw [if_pos (by assumption)]; done) | (rw [if_neg (by assumption), if_pos (by assumption)]; done) | (rw [if_neg (by assumption), if_neg (by assumption)]; done), rfl⟩ (.refl _)

end Go.X

namespace Go.X
open Go.Proofs
theorem hb_87 : hasBody Tryz.prog 87 = true := by kernel_rfl
theorem hb_88 : hasBody Tryz.prog 88 = true := by kernel_rfl
set_option maxRecDepth 100000 in
set_option maxHeartbeats 2000000 in
theorem C_store_New {c : Cx} {L : List Pt}  : Fn Tryz.prog 87 #[] c L (fun v L' => ∃ sb mb, c.w0.heap.size ≤ sb ∧ c.w0.heap.size ≤ mb ∧ v = .pointer (some ⟨sb, 0, none⟩) ∧ L' = (sb, .cells #[.map (some mb)] 245 (0, 0)) :: (mb, .map #[] 0) :: L) := by
  refine Fn.enter Tryz.func87 rfl 4 rfl rfl (fun R hR => ?_)
  refine Cd.seq (fun K1 hK1 => ?_)
  refine Cd.region [0] rfl ?_
  refine Seq.rd0 at0 rfl rfl (O.assign (v := .pointer _) rfl) ?_
  refine Seq.nil ?_
  refine hK1 ?_
  refine Cd.seq (fun K2 hK2 => ?_)
  refine Cd.region [0, 1, 2, 3] rfl ?_
  refine Seq.op at0 rfl (Op.new rfl (O.makeMap) ?_)
  intro b3 hb3
  refine Seq.rd0 at1 rfl rfl (O.build rfl (cs := #[.map (some b3)]) (by kernel_rfl)) ?_
  refine Seq.op at2 rfl (Op.new rfl (O.box (v := .agg _) rfl (cs := #[.map (some b3)]) rfl) ?_)
  intro b4 hb4
  refine Seq.rd0 at3 rfl rfl (O.assign (v := .pointer _) rfl) ?_
  refine Seq.nil ?_
  refine hK2 ?_
  refine Cd.ret ?_
  exact hR _ _ (Res.one (v := .pointer _) rfl rfl) ⟨b4, b3, hb4, hb3, rfl, rfl⟩ (.refl _)

set_option maxRecDepth 100000 in
set_option maxHeartbeats 2000000 in
theorem C_prep_New {c : Cx} {L : List Pt}  : Fn Tryz.prog 88 #[] c L (fun v L' => ∃ tb hm lm, c.w0.heap.size ≤ tb ∧ c.w0.heap.size ≤ hm ∧ c.w0.heap.size ≤ lm ∧ v = .pointer (some ⟨tb, 0, none⟩) ∧ L' = (tb, .cells #[.map (some lm), .map (some hm)] 249 (0, 0)) :: (hm, .map #[] 0) :: (lm, .map #[] 0) :: L) := by
  refine Fn.enter Tryz.func88 rfl 5 rfl rfl (fun R hR => ?_)
  refine Cd.seq (fun K1 hK1 => ?_)
  refine Cd.region [0] rfl ?_
  refine Seq.rd0 at0 rfl rfl (O.assign (v := .pointer _) rfl) ?_
  refine Seq.nil ?_
  refine hK1 ?_
  refine Cd.seq (fun K2 hK2 => ?_)
  refine Cd.region [0, 1, 2, 3, 4] rfl ?_
  refine Seq.op at0 rfl (Op.new rfl (O.makeMap) ?_)
  intro b3 hb3
  refine Seq.op at1 rfl (Op.new rfl (O.makeMap) ?_)
  intro b4 hb4
  refine Seq.rd0 at2 rfl rfl (O.build rfl (cs := #[.map (some b3), .map (some b4)]) (by kernel_rfl)) ?_
  refine Seq.op at3 rfl (Op.new rfl (O.box (v := .agg _) rfl (cs := #[.map (some b3), .map (some b4)]) rfl) ?_)
  intro b5 hb5
  refine Seq.rd0 at4 rfl rfl (O.assign (v := .pointer _) rfl) ?_
  refine Seq.nil ?_
  refine hK2 ?_
  refine Cd.ret ?_
  exact hR _ _ (Res.one (v := .pointer _) rfl rfl) ⟨b5, b4, b3, hb5, hb4, hb3, rfl, rfl⟩ (.refl _)

set_option maxRecDepth 100000 in
set_option maxHeartbeats 2000000 in
theorem C_part_New {c : Cx} {L : List Pt}  : Fn Tryz.prog 15 #[] c L (fun v L' => ∃ pb om tb hm lm sb mb, c.w0.heap.size ≤ pb ∧ c.w0.heap.size ≤ om ∧ c.w0.heap.size ≤ tb ∧ c.w0.heap.size ≤ hm ∧ c.w0.heap.size ≤ lm ∧ c.w0.heap.size ≤ sb ∧ c.w0.heap.size ≤ mb ∧ v = .pointer (some ⟨pb, 0, none⟩) ∧ L' = (pb, .cells #[.pointer (some ⟨sb, 0, none⟩), .pointer (some ⟨tb, 0, none⟩), .map (some om)] 144 (0, 0)) :: (om, .map #[] 0) :: (tb, .cells #[.map (some lm), .map (some hm)] 249 (0, 0)) :: (hm, .map #[] 0) :: (lm, .map #[] 0) :: (sb, .cells #[.map (some mb)] 245 (0, 0)) :: (mb, .map #[] 0) :: L) := by
  refine Fn.enter Tryz.func15 rfl 6 rfl rfl (fun R hR => ?_)
  refine Cd.seq (fun K1 hK1 => ?_)
  refine Cd.region [0] rfl ?_
  refine Seq.rd0 at0 rfl rfl (O.assign (v := .pointer _) rfl) ?_
  refine Seq.nil ?_
  refine hK1 ?_
  refine Cd.seq (fun K2 hK2 => ?_)
  refine Cd.region [0, 1, 2, 3, 4, 5] rfl ?_
  refine Seq.op at0 rfl (Op.callF rfl hb_87 C_store_New rfl ?_)
  rintro _ _ ⟨sb3, mb4, hsb3, hmb4, rfl, rfl⟩
  refine Seq.op at1 rfl (Op.callF rfl hb_88 C_prep_New rfl ?_)
  rintro _ _ ⟨tb5, hm6, lm7, htb5, hhm6, hlm7, rfl, rfl⟩
  refine Seq.op at2 rfl (Op.new rfl (O.makeMap) ?_)
  intro b8 hb8
  refine Seq.rd0 at3 rfl rfl (O.build rfl (cs := #[.pointer (some ⟨sb3, 0, none⟩), .pointer (some ⟨tb5, 0, none⟩), .map (some b8)]) (by kernel_rfl)) ?_
  refine Seq.op at4 rfl (Op.new rfl (O.box (v := .agg _) rfl (cs := #[.pointer (some ⟨sb3, 0, none⟩), .pointer (some ⟨tb5, 0, none⟩), .map (some b8)]) rfl) ?_)
  intro b9 hb9
  refine Seq.rd0 at5 rfl rfl (O.assign (v := .pointer _) rfl) ?_
  refine Seq.nil ?_
  refine hK2 ?_
  refine Cd.ret ?_
  exact hR _ _ (Res.one (v := .pointer _) rfl rfl) ⟨b9, b8, tb5, hm6, lm7, sb3, mb4, hb9, hb8, htb5, hhm6, hlm7, hsb3, hmb4, rfl, rfl⟩ (.refl _)

end Go.X

/- The engine, part 16: stores into rows; clear. -/
namespace Go.X
section
variable {P : Program} {n : Sz} {e : Env} {d : Option Tmp} {ty : TypeId} {p : String} {af : Array Edge} {g : Option (Nat × Bool)}
variable {c : Cx} {L : List Pt} {x y z : Operand} {v v' : Value}
variable {α : Type} {enc : α → Array Value} {sz : Nat}
theorem rows_split (hs : ∀ x, (enc x).size = sz) {l : List α} {i : Nat} (hi : i < l.length) : (rows enc l).toList = (rows enc (l.take i)).toList ++ ((enc l[i]).toList ++ (rows enc (l.drop (i + 1))).toList) ∧ (rows enc (l.take i)).size = i * sz := by
  constructor
  · have h1 : l = l.take i ++ l[i] :: l.drop (i + 1) := by rw [← List.drop_eq_getElem_cons hi]; simp
    have h2 := congrArg (fun l => (rows enc l).toList) h1
    simp only [rows, List.flatMap_append, List.flatMap_cons] at h2 ⊢
    exact h2
  · rw [rows_size hs, List.length_take, Nat.min_eq_left (by omega)]
/-- a store of one element into a row -/
theorem rows_put (hs : ∀ x, (enc x).size = sz) {l : List α} {i : Int} {sp : Array Value} {a : α} (h0 : 0 ≤ i) (hi : i < (l.length : Nat)) :
    putL (rows enc l ++ sp) (0 + i.toNat * sz) (enc a).toList = rows enc (l.set i.toNat a) ++ sp := by
  have hi' : i.toNat < l.length := by omega
  obtain ⟨h1, h2⟩ := rows_split hs hi'
  obtain ⟨h3, h4⟩ := rows_split (l := l.set i.toNat a) hs (i := i.toNat) (by simpa using hi')
  apply Array.ext'
  have := putL_mid (enc a).toList (rows enc (l.take i.toNat)).toList (enc l[i.toNat]).toList ((rows enc (l.drop (i.toNat + 1))).toList ++ sp.toList) (rows enc l ++ sp) (by rw [Array.toList_append, h1]; simp) (by simp [hs])
  simp only [Array.length_toList, h2] at this
  rw [Nat.zero_add, this, Array.toList_append, h3]
  simp only [List.getElem_set_self, List.append_assoc]
  rw [List.take_set, List.set_eq_of_length_le (by simp; omega), List.drop_set_of_lt (by omega)]
theorem rows_room_put (hs : ∀ x, (enc x).size = sz) {l : List α} {i : Int} {sp : Array Value} (h0 : 0 ≤ i) (hi : i < (l.length : Nat)) : 0 + i.toNat * sz + sz ≤ (rows enc l ++ sp).size := by
  rw [Array.size_append, rows_size hs, Nat.zero_add]
  have : (i.toNat + 1) * sz ≤ l.length * sz := Nat.mul_le_mul_right _ (by omega)
  rw [Nat.succ_mul] at this
  omega

/-- 'clear' of a row's end -/
theorem O.clear {t el sz' by_ b o m cap : Nat} {zv : Value} {cs cs' : Array Value} {el' : TypeId} (ht : elemInfo P t = some (el, sz', by_, zv)) (hx : ev e x = .slice (some ⟨b, o, none⟩) m cap)
    (hone : ∀ u ∈ zv.cells.toList, Value.oneCell' u = true) (hroom : o + m * sz' ≤ cs.size) (hcs : m ≠ 0 → putL cs o (Builtin.zeroCells zv.cells m).toList = cs') (h0 : m = 0 → cs' = cs) :
    Eg P e ⟨d, .call { callee := .builtin .clear, args := #[x], argTypes := #[t] }, ty, p, af, g⟩ c ((b, .cells cs el' (0, 0)) :: L)
      (fun v L' => v = .tuple #[] ∧ L' = (b, .cells cs' el' (0, 0)) :: L) := by
  intro w hw
  obtain ⟨hu, i, hi, rfl, rfl, hz, hzs⟩ := elem_parts ht
  have hzz : zeroOf P el = some zv := by simp [zeroOf, hi, hz]
  cases m with
  | zero =>
    obtain rfl := h0 rfl
    refine ⟨_, w, _, .inl ?_, ⟨rfl, rfl⟩, hw⟩
    simp [execOp, resolve, invoke, builtin, Builtin.clear_, hx, run_under hu]
  | succ m =>
    have hsz : (Builtin.zeroCells zv.cells (m + 1)).size = (m + 1) * i.size := by rw [zeroCells_size, hzs]
    have hst := run_storeL (P := P) (el := el') (Builtin.zeroCells zv.cells (m + 1)).toList w o 0 cs (hw.look _ (List.mem_cons_self)) (by rw [Array.length_toList, hsz]; omega) (by
      intro u hu2
      simp only [Builtin.zeroCells, Array.toList_map, List.mem_map] at hu2
      obtain ⟨j, hj, rfl⟩ := hu2
      have hj2 : j < (m + 1) * zv.cells.size := by simpa using hj
      have hpos : 0 < zv.cells.size := by
        rcases Nat.eq_zero_or_pos zv.cells.size with h | h
        · rw [h] at hj2; simp at hj2
        · exact h
      have hlt := Nat.mod_lt j hpos
      rw [getElem!_pos zv.cells _ hlt]
      exact hone _ (by simp))
    have hcs2 : putL cs (o + 0) (Builtin.zeroCells zv.cells (m + 1)).toList = cs' := hcs (by omega)
    rw [hcs2] at hst
    refine ⟨_, _, _, .inl ?_, ⟨rfl, rfl⟩, St.set (A := []) hw⟩
    simp [execOp, resolve, invoke, builtin, Builtin.clear_, hx, run_under hu, run_zero hzz, hst]
end
end Go.X

namespace Go.X
open Go.Proofs

theorem run_eqStamp (x y : Stamp) (w : World) : (Op.equal 24 (.agg (Stamp_enc x)) (.agg (Stamp_enc y))).run Tryz.prog w = .ok (decide (x = y)) w := by
  have uT : Tryz.prog.underlying 2 = some (.int .i64) := by kernel_rfl
  have uN : Tryz.prog.underlying 5 = some (.int .u8) := by kernel_rfl
  have aT : ∀ w, (isAgg 2).run Tryz.prog w = .ok false w := fun w => by kernel_rfl
  have aN : ∀ w, (isAgg 5).run Tryz.prog w = .ok false w := fun w => by kernel_rfl
  have zT : ∀ w, (Go.sizeOf 2).run Tryz.prog w = .ok 1 w := fun w => by kernel_rfl
  have zN : ∀ w, (Go.sizeOf 5).run Tryz.prog w = .ok 1 w := fun w => by kernel_rfl
  have hS : Tryz.prog.underlying 24 = some (.struct (Tryz.prog.fieldsOf 24)) := by kernel_rfl
  have hp : Tryz.prog.stoodInHeld 24 = false := by kernel_rfl
  have hdec : decide (x = y) = (x.t == y.t && x.n == y.n) := by
    cases x; cases y; rw [Bool.eq_iff_iff]; simp [Stamp.mk.injEq]
  rw [hdec]
  show (Op.equalIn 10000 24 (.agg (Stamp_enc x)) (.agg (Stamp_enc y))).run Tryz.prog w = _
  simp only [Stamp_enc]
  rw [show (10000 : Nat) = 9999 + 1 from rfl, run_equalIn_agg w 9999 24 _ _ hS hp]
  simp only [Program.fieldsOf, Tryz.underlying24]
  go_simp
  by_cases h1 : x.t = y.t <;> by_cases h2 : x.n = y.n <;> simp [h1, h2]

section
variable {e : Env} {d : Option Tmp} {ty : TypeId} {p : String} {af : Array Edge} {g : Option (Nat × Bool)} {x y : Operand} {t' : TypeId} {a b : Stamp}
theorem eqStamp (hx : ev e x = .agg (Stamp_enc a)) (hy : ev e y = .agg (Stamp_enc b)) : Rn0 Tryz.prog e ⟨d, .binOp .eql 24 x y t', ty, p, af, g⟩ (.bool (decide (a = b))) := fun w =>
  run_binop hx hy (by simp [eqGuard, (by kernel_rfl : Tryz.prog.eqGuardType Tryz.prog.depth 24 = false)]) (run_eql rfl (run_eqStamp a b w))
end
/-- why may a transaction not be committed? -/
def usedS (l : List (Key × CV)) (s : Stamp) (x : Write) : Bool := (getS l x.key).any fun v => decide (v.stamp = s)
def canCommitP (l : List (Key × CV)) (ol : List (I64 × Int)) (el : List (I64 × EV)) (ti : I64) (s : Stamp) : Int :=
  if s.good then (if stateP ol el ti = 0 then 4 else if stateP ol el ti = 3 then 10 else if stateP ol el ti = 2 then 0 else
    if s.cmp (entT el ti).1.stamp < 0 then 1 else if (entT el ti).2.any (usedS l s) then 5 else 0) else 1
theorem takeA_next {α : Type} {ws : List α} {p : α → Bool} {i : Nat} (hi : i < ws.length) (h : ∀ w ∈ ws.take i, p w = false) (hp : p ws[i] = false) : ∀ w ∈ ws.take (i + 1), p w = false := by
  intro w hw
  rw [List.take_add_one, List.getElem?_eq_getElem hi] at hw
  simp only [Option.toList_some, List.mem_append, List.mem_singleton] at hw
  rcases hw with hw | rfl
  · exact h w hw
  · exact hp
theorem anyA_none {α : Type} {ws : List α} {p : α → Bool} {i : Nat} (hi : i = ws.length) (h : ∀ w ∈ ws.take i, p w = false) : ws.any p = false := by
  subst hi; rw [List.take_length] at h; rw [List.any_eq_false]; intro x hx; rw [h x hx]; decide
theorem anyA_some {α : Type} {ws : List α} {p : α → Bool} {i : Nat} (hi : i < ws.length) (h : p ws[i] = true) : ws.any p = true := List.any_eq_true.2 ⟨_, List.getElem_mem hi, h⟩

end Go.X

namespace Go.X
open Go.Proofs
theorem hb_161 : hasBody Tryz.prog 161 = true := by kernel_rfl
section
variable {l : List (Key × CV)} {ol : List (I64 × Int)} {el : List (I64 × EV)} {ti : I64} {s : Stamp}
theorem cc1 (h : (!decide s.good) = true) : canCommitP l ol el ti s = 1 := if_neg (by simpa using h)
theorem cc4 (hg : (!decide s.good) = false) (h0 : stateP ol el ti = 0) : canCommitP l ol el ti s = 4 := by unfold canCommitP; rw [if_pos (by simpa using hg), if_pos h0]
theorem cc10 (hg : (!decide s.good) = false) (h0 : ¬ stateP ol el ti = 0) (h3 : stateP ol el ti = 3) : canCommitP l ol el ti s = 10 := by unfold canCommitP; rw [if_pos (by simpa using hg), if_neg h0, if_pos h3]
theorem cc0a (hg : (!decide s.good) = false) (h0 : ¬ stateP ol el ti = 0) (h3 : ¬ stateP ol el ti = 3) (h2 : stateP ol el ti = 2) : canCommitP l ol el ti s = 0 := by unfold canCommitP; rw [if_pos (by simpa using hg), if_neg h0, if_neg h3, if_pos h2]
theorem cc1b (hg : (!decide s.good) = false) (h0 : ¬ stateP ol el ti = 0) (h3 : ¬ stateP ol el ti = 3) (h2 : ¬ stateP ol el ti = 2) (hl : s.cmp (entT el ti).1.stamp < 0) : canCommitP l ol el ti s = 1 := by
  unfold canCommitP; rw [if_pos (by simpa using hg), if_neg h0, if_neg h3, if_neg h2, if_pos hl]
theorem cc5 (hg : (!decide s.good) = false) (h0 : ¬ stateP ol el ti = 0) (h3 : ¬ stateP ol el ti = 3) (h2 : ¬ stateP ol el ti = 2) (hl : ¬ s.cmp (entT el ti).1.stamp < 0) (ha : (entT el ti).2.any (usedS l s) = true) : canCommitP l ol el ti s = 5 := by
  unfold canCommitP; rw [if_pos (by simpa using hg), if_neg h0, if_neg h3, if_neg h2, if_neg hl, if_pos ha]
theorem cc0b (hg : (!decide s.good) = false) (h0 : ¬ stateP ol el ti = 0) (h3 : ¬ stateP ol el ti = 3) (h2 : ¬ stateP ol el ti = 2) (hl : ¬ s.cmp (entT el ti).1.stamp < 0) (ha : (entT el ti).2.any (usedS l s) = false) : canCommitP l ol el ti s = 0 := by
  unfold canCommitP; rw [if_pos (by simpa using hg), if_neg h0, if_neg h3, if_neg h2, if_neg hl, if_neg (by rw [ha]; decide)]
end

set_option maxRecDepth 100000 in
set_option maxHeartbeats 2000000 in
theorem C_CanCommit {c : Cx} {L : List Pt} {pb : Nat} {l : List (Key × CV)} {el : List (I64 × EV)} {hl : List (Key × I64)} {ol : List (I64 × Int)} (hP : PtAt c L pb l el hl ol) {ti : I64} {s : Stamp} : Fn Tryz.prog 92 #[.pointer (some ⟨pb, 0, none⟩), .int .i64 ti.1, .agg (Stamp_enc s)] c L (fun v L' => v = .int .i64 (canCommitP l ol el ti s) ∧ L' = L) := by
  obtain ⟨⟨sb, tb, om, eso, cko, hpb, hS, hT, hom, hMo⟩⟩ := id hP
  refine Fn.enter Tryz.func92 rfl 64 rfl rfl (fun R hR => ?_)
  refine Cd.seq (fun K1 hK1 => ?_)
  refine Cd.region [0, 1] rfl ?_
  refine Seq.op at0 rfl (Op.new rfl (O.box (v := .agg _) rfl (cs := (Stamp_enc s)) rfl) ?_)
  intro b2 hb2
  refine Seq.rd0 at1 rfl rfl (O.assign (v := .int .i64 _) rfl) ?_
  refine Seq.nil ?_
  refine hK1 ?_
  refine Cd.seq (fun K3 hK3 => ?_)
  refine Cd.seq (fun K4 hK4 => ?_)
  refine Cd.region [0, 1, 2] rfl ?_
  refine Seq.rd1 at0 rfl rfl (O.loadA kd_24 rfl (Nat.le_of_ble_eq_true rfl) (Stamp_all _)) Rd.head ?_
  refine Seq.op at1 rfl (Op.callF rfl hb_98 C_stamp_Good rfl ?_)
  rintro _ _ ⟨rfl, rfl⟩
  refine Seq.rd0 at2 rfl rfl (O.not rfl) ?_
  refine Seq.nil ?_
  refine hK4 ?_
  refine Cd.cond (!(decide (s).good)) rfl (fun t5 => ?_) (fun t5 => ?_)
  · skip
    refine Cd.seq (fun K6 hK6 => ?_)
    refine Cd.region [0] rfl ?_
    refine Seq.rd0 at0 rfl rfl (O.assign (v := .int .i64 _) rfl) ?_
    refine Seq.nil ?_
    refine hK6 ?_
    refine Cd.ret ?_
    exact hR _ _ (Res.one (v := .int .i64 _) rfl rfl) ⟨congrArg (Value.int .i64) (Eq.symm (by first | exact cc1 (by assumption) | exact cc1b (by assumption) (by assumption) (by assumption) (by assumption) (by assumption))), rfl⟩ (.cons _ (.refl _))
  · skip
    refine Cd.skip ?_
    refine hK3 ?_
    refine Cd.seq (fun K7 hK7 => ?_)
    refine Cd.seq (fun K8 hK8 => ?_)
    refine Cd.region [0, 1, 2] rfl ?_
    refine Seq.rd0 at0 rfl rfl (O.move (v := .pointer _) rfl) ?_
    refine Seq.rd0 at1 rfl rfl (O.move (v := .int .i64 _) rfl) ?_
    refine Seq.op at2 rfl (Op.callF rfl hb_19 (C_State (hP.cons)) rfl ?_)
    rintro _ _ ⟨rfl, rfl⟩
    refine Seq.nil ?_
    refine hK8 ?_
    refine Cd.block ?_
    refine Cd.seq (fun K9 hK9 => ?_)
    refine Cd.region [0, 1] rfl ?_
    refine Seq.rd0 at0 rfl rfl (O.eqI rfl rfl) ?_
    refine Seq.rd0 at1 rfl rfl (O.assign (v := .bool _) rfl) ?_
    refine Seq.nil ?_
    refine hK9 ?_
    refine Cd.if ((stateP ol el ti) = 0) rfl (fun t10 => ?_) (fun t10 => ?_)
    · skip
      refine Cd.seq (fun K11 hK11 => ?_)
      refine Cd.region [0] rfl ?_
      refine Seq.rd0 at0 rfl rfl (O.assign (v := .int .i64 _) rfl) ?_
      refine Seq.nil ?_
      refine hK11 ?_
      refine Cd.ret ?_
      exact hR _ _ (Res.one (v := .int .i64 _) rfl rfl) ⟨congrArg (Value.int .i64) (Eq.symm (by exact cc4 (by assumption) (by assumption))), rfl⟩ (.cons _ (.refl _))
    · skip
      refine Cd.seq (fun K12 hK12 => ?_)
      refine Cd.region [0, 1] rfl ?_
      refine Seq.rd0 at0 rfl rfl (O.eqI rfl rfl) ?_
      refine Seq.rd0 at1 rfl rfl (O.assign (v := .bool _) rfl) ?_
      refine Seq.nil ?_
      refine hK12 ?_
      refine Cd.if ((stateP ol el ti) = 3) rfl (fun t13 => ?_) (fun t13 => ?_)
      · skip
        refine Cd.seq (fun K14 hK14 => ?_)
        refine Cd.region [0] rfl ?_
        refine Seq.rd0 at0 rfl rfl (O.assign (v := .int .i64 _) rfl) ?_
        refine Seq.nil ?_
        refine hK14 ?_
        refine Cd.ret ?_
        exact hR _ _ (Res.one (v := .int .i64 _) rfl rfl) ⟨congrArg (Value.int .i64) (Eq.symm (by exact cc10 (by assumption) (by assumption) (by assumption))), rfl⟩ (.cons _ (.refl _))
      · skip
        refine Cd.seq (fun K15 hK15 => ?_)
        refine Cd.region [0, 1] rfl ?_
        refine Seq.rd0 at0 rfl rfl (O.eqI rfl rfl) ?_
        refine Seq.rd0 at1 rfl rfl (O.assign (v := .bool _) rfl) ?_
        refine Seq.nil ?_
        refine hK15 ?_
        refine Cd.if ((stateP ol el ti) = 2) rfl (fun t16 => ?_) (fun t16 => ?_)
        · skip
          refine Cd.seq (fun K17 hK17 => ?_)
          refine Cd.region [0] rfl ?_
          refine Seq.rd0 at0 rfl rfl (O.assign (v := .int .i64 _) rfl) ?_
          refine Seq.nil ?_
          refine hK17 ?_
          refine Cd.ret ?_
          exact hR _ _ (Res.one (v := .int .i64 _) rfl rfl) ⟨congrArg (Value.int .i64) (Eq.symm (by first | exact cc0a (by assumption) (by assumption) (by assumption) (by assumption) | exact cc0b (by assumption) (by assumption) (by assumption) (by assumption) (by assumption) (anyA_none (by omega) hz))), rfl⟩ (.cons _ (.refl _))
        · skip
          refine Cd.skip ?_
          refine hK7 ?_
          refine Cd.seq (fun K18 hK18 => ?_)
          refine Cd.region [0, 1, 2, 3, 4, 5, 6, 7, 8, 9, 10, 11] rfl ?_
          refine Seq.rd0 at0 rfl rfl (O.move (v := .pointer _) rfl) ?_
          refine Seq.rd0 at1 rfl rfl (O.nilP rfl) ?_
          refine Seq.rd0 at2 rfl rfl (O.field fo_144_1 rfl) ?_
          refine Seq.rd1 at3 rfl rfl (O.load kd_140 rfl r3_1) hpb.cons ?_
          refine Seq.rd0 at4 rfl rfl (O.move (v := .int .i64 _) rfl) ?_
          refine Seq.op at5 rfl (Op.callF rfl hb_96 (C_prep_Has hT.cons) rfl ?_)
          rintro _ _ ⟨av19, cap20, Ls21, rfl, hoLs21, rfl⟩
          refine Ent.perm ?_ (bring (Ls := Ls21) (pre := [(b2, _)]) (R := L)).symm
          obtain ⟨hEn, _⟩ := hT.ent ti
          have hX := OwnSl.at_ (c := c) (R := L) hoLs21 hEn.len hEn.lt
          have hxl := hEn.len
          have hxt := hEn.lt
          refine Seq.rd0 at6 rfl rfl (O.move (v := .tuple _) rfl) ?_
          refine Seq.rd0 at7 rfl rfl (O.ext rfl r2_0) ?_
          refine Seq.rd0 at8 rfl rfl (O.ext rfl r2_1) ?_
          refine Seq.op at9 rfl (Op.new rfl (O.alloc zo_27 (cs := (Entry_enc Entry.zero)) rfl) ?_)
          intro b22 hb22
          refine Seq.op at10 rfl (Op.set0 rfl (O.store kd_27 rfl (v := .agg _) rfl (Entry_size _) (Entry_room (Entry_size _)) (Entry_one _) (Entry_put _ (Entry_size _))) ?_)
          refine Seq.rd0 at11 rfl rfl (O.assign (v := .bool _) rfl) ?_
          refine Seq.nil ?_
          refine hK18 ?_
          refine Cd.seq (fun K23 hK23 => ?_)
          refine Cd.seq (fun K24 hK24 => ?_)
          refine Cd.region [0, 1, 2, 3, 4] rfl ?_
          refine Seq.rd1 at0 rfl rfl (O.loadA kd_24 rfl (Nat.le_of_ble_eq_true rfl) (Stamp_all _)) Rd.head.cons ?_
          refine Seq.rd0 at1 rfl rfl (O.field fo_27_2 rfl) ?_
          refine Seq.rd1 at2 rfl rfl (O.loadA kd_24 rfl (Nat.le_of_ble_eq_true rfl) (Entry_stamp _)) Rd.head ?_
          refine Seq.op at3 rfl (Op.callF rfl hb_132 C_stamp_Cmp rfl ?_)
          rintro _ _ ⟨rfl, rfl⟩
          refine Seq.rd0 at4 rfl rfl (O.lss rfl rfl) ?_
          refine Seq.nil ?_
          refine hK24 ?_
          refine Cd.if (((s).cmp (({ (entT el ti).1 with ws := ⟨av19, (entT el ti).1.ws.n, cap20⟩ }).stamp)) < 0) rfl (fun t25 => ?_) (fun t25 => ?_)
          · skip
            refine Cd.seq (fun K26 hK26 => ?_)
            refine Cd.region [0] rfl ?_
            refine Seq.rd0 at0 rfl rfl (O.assign (v := .int .i64 _) rfl) ?_
            refine Seq.nil ?_
            refine hK26 ?_
            refine Cd.ret ?_
            exact hR _ _ (Res.one (v := .int .i64 _) rfl rfl) ⟨congrArg (Value.int .i64) (Eq.symm (by first | exact cc1 (by assumption) | exact cc1b (by assumption) (by assumption) (by assumption) (by assumption) (by assumption))), rfl⟩ (.cons _ (.cons _ (sub_app (G := Ls21) (.refl _))))
          · skip
            refine Cd.skip ?_
            refine hK23 ?_
            refine Cd.seq (fun K27 hK27 => ?_)
            refine Cd.seq (fun K28 hK28 => ?_)
            refine Cd.region [0, 1, 2, 3] rfl ?_
            refine Seq.rd0 at0 rfl rfl (O.field fo_27_3 rfl) ?_
            refine Seq.rd1 at1 rfl rfl (O.load kd_25 rfl (Entry_ws _)) Rd.head ?_
            refine Seq.rd0 at2 rfl rfl (O.lenS ds_25 rfl) ?_
            refine Seq.rd0 at3 rfl rfl (O.move (v := .int .i64 _) rfl) ?_
            refine Seq.nil ?_
            refine hK28 ?_
            refine Cd.block ?_
            refine Cd.loop (fun m29 e30 L31 => ∃ i : Nat, m29 = (entT el ti).2.length - i ∧ e30 0 = .pointer (some ⟨pb, 0, none⟩) ∧ e30 5 = .pointer (some ⟨b2, 0, none⟩) ∧ e30 40 = .slice av19 ((entT el ti).1.ws.n) cap20 ∧ e30 41 = .int .i64 ((entT el ti).1.ws.n : Int) ∧ e30 42 = .int .i64 (i : Int) ∧ L31 = (b22, .cells (Entry_enc { (entT el ti).1 with ws := ⟨av19, (entT el ti).1.ws.n, cap20⟩ }) 27 (0, 0)) :: (b2, .cells (Stamp_enc s) 24 (0, 0)) :: (Ls21 ++ (L)) ∧ i ≤ (entT el ti).2.length ∧ (∀ x ∈ (entT el ti).2.take i, usedS l s x = false)) _ ⟨0, rfl, rfl, rfl, rfl, rfl, rfl, rfl, Nat.zero_le _, fun w hw => by simp at hw⟩ ?_
            rintro _ e30 _ ⟨i, rfl, s32, s33, s34, s35, s36, rfl, hi, hz⟩ K37 hK37
            refine Cd.seq (fun K38 hK38 => ?_)
            refine Cd.region [0] rfl ?_
            refine Seq.rd0 at0 rfl rfl (O.lss (by exact s36) (by exact s35)) ?_
            refine Seq.nil ?_
            refine hK38 ?_
            refine Cd.seq (fun K39 hK39 => ?_)
            refine Cd.if ((i : Int) < ((entT el ti).1.ws.n : Int)) rfl (fun t40 => ?_) (fun t40 => ?_)
            · skip
              refine Cd.skip ?_
              refine hK39 ?_
              refine Cd.seq (fun K41 hK41 => ?_)
              refine Cd.block ?_
              refine Cd.seq (fun K42 hK42 => ?_)
              refine Cd.region [0, 1, 2, 3] rfl ?_
              have hlt43 : i < (entT el ti).2.length := by omega
              obtain ⟨pre43, sp43, el43, fz43, hav43, hrd43⟩ := hX.at_ hlt43
              refine Seq.rd0 at0 rfl rfl (O.indexG sl_25 (by exact s34) hav43 (by exact s36) (by omega) (by omega)) ?_
              refine Seq.rd1 at1 rfl rfl (O.loadA kd_47 rfl (rowRoomP Write_size (getN hlt43)) (rowAtP Write_size (getN hlt43))) hrd43.cons.cons ?_
              refine Seq.op at2 rfl (Op.new rfl (O.alloc zo_47 (cs := (Write_enc Write.zero)) rfl) ?_)
              intro b44 hb44
              refine Seq.op at3 rfl (Op.set0 rfl (O.store kd_47 rfl (v := .agg _) rfl (Write_size _) (Write_room (Write_size _)) (Write_one _) (Write_put _ (Write_size _))) ?_)
              refine Seq.nil ?_
              refine hK42 ?_
              refine Cd.seq (fun K45 hK45 => ?_)
              refine Cd.draw 9 rfl po ?_
              refine Any.rd0 0 at0 rfl rfl (O.move (v := .pointer _) (by exact s32)) (by kernel_rfl) (by kernel_rfl) (by kernel_rfl) ?_
              refine Any.rd0 1 at1 rfl rfl (O.nilP rfl) (by kernel_rfl) (by kernel_rfl) (by kernel_rfl) ?_
              refine Any.rd0 2 at2 rfl rfl (O.field fo_144_0 rfl) (by kernel_rfl) (by kernel_rfl) (by kernel_rfl) ?_
              refine Any.rd1 3 at3 rfl rfl (O.load kd_137 rfl r3_0) hpb.app.cons.cons.cons (by kernel_rfl) (by kernel_rfl) (by kernel_rfl) ?_
              refine Any.rd0 4 at4 rfl rfl (O.field fo_47_0 rfl) (by kernel_rfl) (by kernel_rfl) (by kernel_rfl) ?_
              refine Any.rd1 5 at5 rfl rfl (O.loadA kd_45 rfl (Nat.le_of_ble_eq_true rfl) (Write_key _)) Rd.head (by kernel_rfl) (by kernel_rfl) (by kernel_rfl) ?_
              refine Any.rd0 8 at8 rfl rfl (O.move (v := .int .i64 _) rfl) (by kernel_rfl) (by kernel_rfl) (by kernel_rfl) ?_
              refine Any.one 6 at6 rfl (by kernel_rfl) ⟨⟨trivial, hpb.app.cons.cons.cons⟩, Rd.head⟩ ?_
              refine Op.callF rfl hb_161 (C_store_Chain (k := ((entT el ti).2[i]).key) (hS.app.cons.cons.cons)) rfl ?_
              rintro _ _ ⟨av46, cap47, Ls48, rfl, hoLs48, rfl⟩
              have hY := OwnSl.at_ (c := c) (R := (b44, .cells (Write_enc ((entT el ti).2[i])) 47 (0, 0)) :: (b22, .cells (Entry_enc { (entT el ti).1 with ws := ⟨av19, (entT el ti).1.ws.n, cap20⟩ }) 27 (0, 0)) :: (b2, .cells (Stamp_enc s) 24 (0, 0)) :: (Ls21 ++ (L))) hoLs48 rfl (by have := hS.len (((entT el ti).2[i]).key); omega)
              have hyt := hS.len (((entT el ti).2[i]).key)
              refine Any.toK ?_
              refine Any.rd0 7 at7 rfl rfl (O.lenS ds_239 rfl) (by kernel_rfl) (by kernel_rfl) (by kernel_rfl) ?_
              refine Any.done (by kernel_rfl) ⟨⟨trivial, hpb.app.cons.cons.cons.app⟩, Rd.head.app⟩ ?_
              refine hK45 ?_
              refine Cd.block ?_
              refine Cd.loop (fun m49 e50 L51 => ∃ j : Nat, m49 = (getS l (((entT el ti).2[i]).key)).length - j ∧ e50 0 = .pointer (some ⟨pb, 0, none⟩) ∧ e50 5 = .pointer (some ⟨b2, 0, none⟩) ∧ e50 10 = .pointer (some ⟨b44, 0, none⟩) ∧ e50 40 = .slice av19 ((entT el ti).1.ws.n) cap20 ∧ e50 41 = .int .i64 ((entT el ti).1.ws.n : Int) ∧ e50 42 = .int .i64 (i : Int) ∧ e50 43 = .bool (decide ((i : Int) < ((entT el ti).1.ws.n : Int))) ∧ e50 44 = .pointer (some ⟨(blk av19), pre43.size + (((i : Nat) : Int)).toNat * 18, none⟩) ∧ e50 45 = .agg (Write_enc ((entT el ti).2[i])) ∧ e50 46 = .pointer (some ⟨pb, 0, none⟩) ∧ e50 47 = .pointer (some ⟨pb, 0, none⟩) ∧ e50 48 = .pointer (some ⟨pb, 0, none⟩) ∧ e50 49 = .pointer (some ⟨sb, 0, none⟩) ∧ e50 50 = .pointer (some ⟨b44, 0, none⟩) ∧ e50 51 = .agg (Key_enc (((entT el ti).2[i]).key)) ∧ e50 52 = .slice av46 ((getS l (((entT el ti).2[i]).key)).length) cap47 ∧ e50 53 = .int .i64 ((getS l (((entT el ti).2[i]).key)).length : Int) ∧ e50 54 = .int .i64 (j : Int) ∧ L51 = (Ls48 ++ ((b44, .cells (Write_enc ((entT el ti).2[i])) 47 (0, 0)) :: (b22, .cells (Entry_enc { (entT el ti).1 with ws := ⟨av19, (entT el ti).1.ws.n, cap20⟩ }) 27 (0, 0)) :: (b2, .cells (Stamp_enc s) 24 (0, 0)) :: (Ls21 ++ (L)))) ∧ j ≤ (getS l (((entT el ti).2[i]).key)).length ∧ (∀ x ∈ (getS l (((entT el ti).2[i]).key)).take j, decide (x.stamp = s) = false)) _ ⟨0, rfl, (by exact s32), (by exact s33), rfl, (by exact s34), (by exact s35), (by exact s36), rfl, rfl, rfl, rfl, rfl, rfl, rfl, rfl, rfl, rfl, rfl, rfl, rfl, Nat.zero_le _, fun w hw => by simp at hw⟩ ?_
              rintro _ e50 _ ⟨j, rfl, s52, s53, s54, s55, s56, s57, s58, s59, s60, s61, s62, s63, s64, s65, s66, s67, s68, s69, rfl, hj, hzj⟩ K70 hK70
              refine Cd.seq (fun K71 hK71 => ?_)
              refine Cd.region [0] rfl ?_
              refine Seq.rd0 at0 rfl rfl (O.lss (by exact s69) (by exact s68)) ?_
              refine Seq.nil ?_
              refine hK71 ?_
              refine Cd.seq (fun K72 hK72 => ?_)
              refine Cd.if ((j : Int) < ((getS l (((entT el ti).2[i]).key)).length : Int)) rfl (fun t73 => ?_) (fun t73 => ?_)
              · skip
                refine Cd.skip ?_
                refine hK72 ?_
                refine Cd.seq (fun K74 hK74 => ?_)
                refine Cd.block ?_
                refine Cd.seq (fun K75 hK75 => ?_)
                refine Cd.region [0, 1, 2, 3] rfl ?_
                have hlt76 : j < (getS l (((entT el ti).2[i]).key)).length := by omega
                obtain ⟨pre76, sp76, el76, fz76, hav76, hrd76⟩ := hY.at_ hlt76
                refine Seq.rd0 at0 rfl rfl (O.indexG sl_239 (by exact s67) hav76 (by exact s69) (by omega) (by omega)) ?_
                refine Seq.rd1 at1 rfl rfl (O.loadA kd_242 rfl (rowRoomP Version_size (getN hlt76)) (rowAtP Version_size (getN hlt76))) hrd76 ?_
                refine Seq.op at2 rfl (Op.new rfl (O.alloc zo_242 (cs := (Version_enc Version.zero)) rfl) ?_)
                intro b77 hb77
                refine Seq.op at3 rfl (Op.set0 rfl (O.store kd_242 rfl (v := .agg _) rfl (Version_size _) (Version_room (Version_size _)) (Version_one _) (Version_put _ (Version_size _))) ?_)
                refine Seq.nil ?_
                refine hK75 ?_
                refine Cd.seq (fun K78 hK78 => ?_)
                refine Cd.region [0, 1, 2, 3] rfl ?_
                refine Seq.rd0 at0 rfl rfl (O.field fo_242_0 rfl) ?_
                refine Seq.rd1 at1 rfl rfl (O.loadA kd_24 rfl (Nat.le_of_ble_eq_true rfl) (Version_stamp _)) Rd.head ?_
                refine Seq.rd1 at2 rfl rfl (O.loadA kd_24 (by exact s53) (Nat.le_of_ble_eq_true rfl) (Stamp_all _)) Rd.head.cons.cons.app.cons ?_
                refine Seq.rd0 at3 rfl rfl (eqStamp rfl rfl) ?_
                refine Seq.nil ?_
                refine hK78 ?_
                refine Cd.if (((getS l (((entT el ti).2[i]).key))[j]).stamp = s) rfl (fun t79 => ?_) (fun t79 => ?_)
                · skip
                  refine Cd.seq (fun K80 hK80 => ?_)
                  refine Cd.region [0] rfl ?_
                  refine Seq.rd0 at0 rfl rfl (O.assign (v := .int .i64 _) rfl) ?_
                  refine Seq.nil ?_
                  refine hK80 ?_
                  refine Cd.ret ?_
                  exact hR _ _ (Res.one (v := .int .i64 _) rfl rfl) ⟨congrArg (Value.int .i64) (Eq.symm (by exact cc5 (by assumption) (by assumption) (by assumption) (by assumption) (by assumption) (anyA_some (p := usedS l s) hlt43 (anyA_some hlt76 (decide_eq_true (by assumption)))))), rfl⟩ (.cons _ (sub_app (G := Ls48) (.cons _ (.cons _ (.cons _ (sub_app (G := Ls21) (.refl _)))))))
                · skip
                  refine Cd.skip ?_
                  refine hK74 ?_
                  refine Cd.region [0, 1] rfl ?_
                  refine Seq.rd0 at0 rfl rfl (O.add (by exact s69) rfl (by omega) (by omega)) ?_
                  refine Seq.rd0 at1 rfl rfl (O.move (v := .int .i64 _) rfl) ?_
                  refine Seq.nil ?_
                  refine Ent.drop ?_
                  exact hK70 _ (by omega) ⟨j + 1, rfl, (by exact s52), (by exact s53), (by exact s54), (by exact s55), (by exact s56), (by exact s57), (by exact s58), (by exact s59), (by exact s60), (by exact s61), (by exact s62), (by exact s63), (by exact s64), (by exact s65), (by exact s66), (by exact s67), (by exact s68), rfl, rfl, by omega, takeA_next hlt76 hzj (decide_eq_false (by assumption))⟩
              · skip
                refine Cd.exit ?_
                refine hK41 ?_
                refine Cd.region [0, 1] rfl ?_
                refine Seq.rd0 at0 rfl rfl (O.add (by exact s57) rfl (by omega) (by omega)) ?_
                refine Seq.rd0 at1 rfl rfl (O.move (v := .int .i64 _) rfl) ?_
                refine Seq.nil ?_
                refine Ent.sub ?_ (sub_app (G := Ls48) (.refl _))
                refine Ent.drop ?_
                exact hK37 _ (by omega) ⟨i + 1, rfl, (by exact s52), (by exact s53), (by exact s55), (by exact s56), rfl, rfl, by omega, takeA_next hlt43 hz (anyA_none (by omega) hzj)⟩
            · skip
              refine Cd.exit ?_
              refine hK27 ?_
              refine Cd.seq (fun K81 hK81 => ?_)
              refine Cd.region [0] rfl ?_
              refine Seq.rd0 at0 rfl rfl (O.assign (v := .int .i64 _) rfl) ?_
              refine Seq.nil ?_
              refine hK81 ?_
              refine Cd.ret ?_
              exact hR _ _ (Res.one (v := .int .i64 _) rfl rfl) ⟨congrArg (Value.int .i64) (Eq.symm (by first | exact cc0a (by assumption) (by assumption) (by assumption) (by assumption) | exact cc0b (by assumption) (by assumption) (by assumption) (by assumption) (by assumption) (anyA_none (by omega) hz))), rfl⟩ (.cons _ (.cons _ (sub_app (G := Ls21) (.refl _))))

end Go.X

namespace Go.X
open Go.Proofs
theorem ds_243 : isDesc Tryz.prog 243 = 6 := by kernel_rfl
theorem hb_205 : hasBody Tryz.prog 205 = true := by kernel_rfl
theorem O.lookP {P : Program} {e : Env} {d : Option Tmp} {ty : TypeId} {p : String} {af : Array Edge} {g : Option (Nat × Bool)} {x y : Operand} {t k el b : Nat} {es : Array MapEntry} {ck : Nat} {l : List (Key × CV)} {a : Key}
    (ht : P.underlying t = some (.map k el)) (KK : IsKey P k keyV) (h : MapIs keyV cvV es ck l) (hz : zeroOf P el = some (.pointer none)) (hx : ev e x = .map (some b)) (hy : ev e y = keyV a) :
    Rn1 P e ⟨d, .lookup t x y false, ty, p, af, g⟩ b (.map es ck) (.pointer ((alook l a).map fun q => ⟨q.1, 0, none⟩)) := by
  cases hl : alook l a with
  | some u => exact O.lookS (encV := cvV) (ok := false) ht KK h hx hy hl
  | none => exact O.lookN (encV := cvV) (ok := false) ht KK h hz hx hy hl
/-- how many of the first i writes are of keys that a store has not -/
def newN (l : List (Key × CV)) (ws : List Write) (i : Nat) : Nat := ((ws.take i).filter fun w => ((alook l w.key).map fun q => (⟨q.1, 0, none⟩ : Addr)).isNone).length
def fullS (l : List (Key × CV)) (w : Write) : Bool := decide ((50 : Int) ≤ ((getS l w.key).length : Nat))
def roomS (l : List (Key × CV)) (ws : List Write) : Bool := if ws.any (fullS l) then false else decide (l.length + newN l ws ws.length ≤ 200)
theorem newN_le {l : List (Key × CV)} {ws : List Write} {i : Nat} : newN l ws i ≤ i := Nat.le_trans (List.length_filter_le _ _) (by rw [List.length_take]; omega)
theorem newN_step {l : List (Key × CV)} {ws : List Write} {i : Nat} (hi : i < ws.length) : newN l ws (i + 1) = newN l ws i + (if ((alook l ws[i].key).map fun q => (⟨q.1, 0, none⟩ : Addr)).isNone then 1 else 0) := by
  unfold newN
  rw [List.take_add_one, List.getElem?_eq_getElem hi, Option.toList_some, List.filter_append, List.length_append]
  congr 1
  rw [List.filter_cons]
  split <;> rfl

set_option maxRecDepth 100000 in
set_option maxHeartbeats 2000000 in
theorem C_store_room {c : Cx} {L : List Pt} {sb : Nat} {l : List (Key × CV)} (hS : StAt c L sb l) {av : Option Addr} {nw cw : Nat} {ws : List Write} (hW : SlAt c L Write_enc av nw ws) : Fn Tryz.prog 172 #[.pointer (some ⟨sb, 0, none⟩), .slice av nw cw] c L (fun v L' => v = .bool (roomS l ws) ∧ L' = L) := by
  have hSz := hS.size
  obtain ⟨⟨mb, es, ck, hsb, hmb, hm⟩, hch, _⟩ := id hS
  have hwl := hW.len
  have hwt := hW.lt
  have hms := hm.size
  refine Fn.enter Tryz.func172 rfl 38 rfl rfl (fun R hR => ?_)
  refine Cd.seq (fun K1 hK1 => ?_)
  refine Cd.region [0] rfl ?_
  refine Seq.rd0 at0 rfl rfl (O.assign (v := .bool _) rfl) ?_
  refine Seq.nil ?_
  refine hK1 ?_
  refine Cd.seq (fun K2 hK2 => ?_)
  refine Cd.region [0, 1, 2, 3, 4, 5] rfl ?_
  refine Seq.rd0 at0 rfl rfl (O.move (v := .pointer _) rfl) ?_
  refine Seq.rd0 at1 rfl rfl (O.nilP rfl) ?_
  refine Seq.rd0 at2 rfl rfl (O.field fo_245_0 rfl) ?_
  refine Seq.rd1 at3 rfl rfl (O.load kd_243 rfl r1_0) hsb ?_
  refine Seq.rd1 at4 rfl rfl (O.lenM ds_243 rfl) hmb ?_
  refine Seq.rd0 at5 rfl rfl (O.assign (v := .int .i64 _) rfl) ?_
  refine Seq.nil ?_
  refine hK2 ?_
  refine Cd.seq (fun K3 hK3 => ?_)
  refine Cd.seq (fun K4 hK4 => ?_)
  refine Cd.region [0, 1, 2] rfl ?_
  refine Seq.rd0 at0 rfl rfl (O.move (v := .slice _ _ _) rfl) ?_
  refine Seq.rd0 at1 rfl rfl (O.lenS ds_25 rfl) ?_
  refine Seq.rd0 at2 rfl rfl (O.move (v := .int .i64 _) rfl) ?_
  refine Seq.nil ?_
  refine hK4 ?_
  refine Cd.block ?_
  refine Cd.loop (fun m5 e6 L7 => ∃ i : Nat, ∃ nv : Int, m5 = ws.length - i ∧ e6 0 = .pointer (some ⟨sb, 0, none⟩) ∧ e6 5 = .int .i64 nv ∧ e6 13 = .slice av nw cw ∧ e6 14 = .int .i64 (nw : Int) ∧ e6 15 = .int .i64 (i : Int) ∧ L7 = L ∧ nv = ((l.length + newN l ws i : Nat) : Int) ∧ i ≤ ws.length ∧ (∀ x ∈ ws.take i, fullS l x = false)) _ ⟨0, (es.size : Int), rfl, rfl, rfl, rfl, rfl, rfl, rfl, by rw [hms]; rfl, Nat.zero_le _, fun w hw => by simp at hw⟩ ?_
  rintro _ e6 _ ⟨i, nv, rfl, s8, s9, s10, s11, s12, rfl, hnv, hi, hz⟩ K13 hK13
  have hnl := newN_le (l := l) (ws := ws) (i := i)
  refine Cd.seq (fun K14 hK14 => ?_)
  refine Cd.region [0] rfl ?_
  refine Seq.rd0 at0 rfl rfl (O.lss (by exact s12) (by exact s11)) ?_
  refine Seq.nil ?_
  refine hK14 ?_
  refine Cd.seq (fun K15 hK15 => ?_)
  refine Cd.if ((i : Int) < (nw : Int)) rfl (fun t16 => ?_) (fun t16 => ?_)
  · skip
    refine Cd.skip ?_
    refine hK15 ?_
    refine Cd.seq (fun K17 hK17 => ?_)
    refine Cd.block ?_
    refine Cd.seq (fun K18 hK18 => ?_)
    refine Cd.region [0, 1, 2, 3] rfl ?_
    have hlt19 : i < ws.length := by omega
    obtain ⟨pre19, sp19, el19, fz19, hav19, hrd19⟩ := hW.at_ hlt19
    refine Seq.rd0 at0 rfl rfl (O.indexG sl_25 (by exact s10) hav19 (by exact s12) (by omega) (by omega)) ?_
    refine Seq.rd1 at1 rfl rfl (O.loadA kd_47 rfl (rowRoomP Write_size (getN hlt19)) (rowAtP Write_size (getN hlt19))) hrd19 ?_
    refine Seq.op at2 rfl (Op.new rfl (O.alloc zo_47 (cs := (Write_enc Write.zero)) rfl) ?_)
    intro b20 hb20
    refine Seq.op at3 rfl (Op.set0 rfl (O.store kd_47 rfl (v := .agg _) rfl (Write_size _) (Write_room (Write_size _)) (Write_one _) (Write_put _ (Write_size _))) ?_)
    refine Seq.nil ?_
    refine hK18 ?_
    refine Cd.seq (fun K21 hK21 => ?_)
    refine Cd.seq (fun K22 hK22 => ?_)
    refine Cd.draw 8 rfl po ?_
    refine Any.rd0 0 at0 rfl rfl (O.move (v := .pointer _) (by exact s8)) (by kernel_rfl) (by kernel_rfl) (by kernel_rfl) ?_
    refine Any.rd0 1 at1 rfl rfl (O.nilP rfl) (by kernel_rfl) (by kernel_rfl) (by kernel_rfl) ?_
    refine Any.rd0 2 at2 rfl rfl (O.field fo_245_0 rfl) (by kernel_rfl) (by kernel_rfl) (by kernel_rfl) ?_
    refine Any.rd1 3 at3 rfl rfl (O.load kd_243 rfl r1_0) hsb.cons (by kernel_rfl) (by kernel_rfl) (by kernel_rfl) ?_
    refine Any.rd0 4 at4 rfl rfl (O.field fo_47_0 rfl) (by kernel_rfl) (by kernel_rfl) (by kernel_rfl) ?_
    refine Any.rd1 5 at5 rfl rfl (O.loadA kd_45 rfl (Nat.le_of_ble_eq_true rfl) (Write_key _)) Rd.head (by kernel_rfl) (by kernel_rfl) (by kernel_rfl) ?_
    refine Any.rd1 6 at6 rfl rfl (O.lookP mp_243 kk_key hm zo_251 rfl (by exact rfl)) hmb.cons (by kernel_rfl) (by kernel_rfl) (by kernel_rfl) ?_
    refine Any.rd0 7 at7 rfl rfl (O.eqNil ds_251 rfl rfl) (by kernel_rfl) (by kernel_rfl) (by kernel_rfl) ?_
    refine Any.done (by kernel_rfl) ⟨⟨⟨trivial, hsb.cons⟩, Rd.head⟩, hmb.cons⟩ ?_
    refine hK22 ?_
    refine Cd.cond (((alook l ws[i].key).map fun q => (⟨q.1, 0, none⟩ : Addr)).isNone) rfl (fun t23 => ?_) (fun t23 => ?_)
    · skip
      refine Cd.region [0, 1, 2] rfl ?_
      refine Seq.rd0 at0 rfl rfl (O.move (v := .int .i64 _) (by exact s9)) ?_
      refine Seq.rd0 at1 rfl rfl (O.add rfl rfl (by omega) (by omega)) ?_
      refine Seq.rd0 at2 rfl rfl (O.assign (v := .int .i64 _) rfl) ?_
      refine Seq.nil ?_
      refine hK21 ?_
      refine Cd.seq (fun K24 hK24 => ?_)
      refine Cd.region [0, 1, 2, 3, 4, 5] rfl ?_
      refine Seq.rd0 at0 rfl rfl (O.move (v := .pointer _) (by exact s8)) ?_
      refine Seq.rd0 at1 rfl rfl (O.field fo_47_0 rfl) ?_
      refine Seq.rd1 at2 rfl rfl (O.loadA kd_45 rfl (Nat.le_of_ble_eq_true rfl) (Write_key _)) Rd.head ?_
      refine Seq.op at3 rfl (Op.callF rfl hb_170 (C_of (k := ws[i].key) hS.cons) rfl ?_)
      rintro _ _ ⟨cb25, G26, rfl, rfl, hc27, hc27s, hc27n⟩
      refine Seq.op at4 rfl (Op.callF rfl hb_205 (C_chain_Len hc27n hc27) rfl ?_)
      rintro _ _ ⟨rfl, rfl⟩
      refine Ent.sub ?_ (sub_app (.refl _))
      refine Seq.rd0 at5 rfl rfl (O.geq rfl rfl) ?_
      refine Seq.nil ?_
      refine hK24 ?_
      refine Cd.if ((50 : Int) ≤ (((getS l ws[i].key).length : Nat) : Int)) rfl (fun t28 => ?_) (fun t28 => ?_)
      · skip
        refine Cd.seq (fun K29 hK29 => ?_)
        refine Cd.region [0] rfl ?_
        refine Seq.rd0 at0 rfl rfl (O.assign (v := .bool _) rfl) ?_
        refine Seq.nil ?_
        refine hK29 ?_
        refine Cd.ret ?_
        exact hR _ _ (Res.one (v := .bool _) rfl rfl) ⟨congrArg Value.bool (Eq.symm (by unfold roomS; rw [if_pos (anyA_some (p := fullS l) hlt19 (decide_eq_true (by assumption)))])), rfl⟩ (.cons _ (.refl _))
      · skip
        refine Cd.skip ?_
        refine hK17 ?_
        refine Cd.region [0, 1] rfl ?_
        refine Seq.rd0 at0 rfl rfl (O.add (by exact s12) rfl (by omega) (by omega)) ?_
        refine Seq.rd0 at1 rfl rfl (O.move (v := .int .i64 _) rfl) ?_
        refine Seq.nil ?_
        refine Ent.drop ?_
        exact hK13 _ (by omega) ⟨i + 1, (nv + 1), rfl, (by exact s8), rfl, (by exact s10), (by exact s11), rfl, rfl, by rw [newN_step hlt19, if_pos (by assumption)]; omega, by omega, takeA_next hlt19 hz (decide_eq_false (by assumption))⟩
    · skip
      refine Cd.skip ?_
      refine hK21 ?_
      refine Cd.seq (fun K30 hK30 => ?_)
      refine Cd.region [0, 1, 2, 3, 4, 5] rfl ?_
      refine Seq.rd0 at0 rfl rfl (O.move (v := .pointer _) (by exact s8)) ?_
      refine Seq.rd0 at1 rfl rfl (O.field fo_47_0 rfl) ?_
      refine Seq.rd1 at2 rfl rfl (O.loadA kd_45 rfl (Nat.le_of_ble_eq_true rfl) (Write_key _)) Rd.head ?_
      refine Seq.op at3 rfl (Op.callF rfl hb_170 (C_of (k := ws[i].key) hS.cons) rfl ?_)
      rintro _ _ ⟨cb31, G32, rfl, rfl, hc33, hc33s, hc33n⟩
      refine Seq.op at4 rfl (Op.callF rfl hb_205 (C_chain_Len hc33n hc33) rfl ?_)
      rintro _ _ ⟨rfl, rfl⟩
      refine Ent.sub ?_ (sub_app (.refl _))
      refine Seq.rd0 at5 rfl rfl (O.geq rfl rfl) ?_
      refine Seq.nil ?_
      refine hK30 ?_
      refine Cd.if ((50 : Int) ≤ (((getS l ws[i].key).length : Nat) : Int)) rfl (fun t34 => ?_) (fun t34 => ?_)
      · skip
        refine Cd.seq (fun K35 hK35 => ?_)
        refine Cd.region [0] rfl ?_
        refine Seq.rd0 at0 rfl rfl (O.assign (v := .bool _) rfl) ?_
        refine Seq.nil ?_
        refine hK35 ?_
        refine Cd.ret ?_
        exact hR _ _ (Res.one (v := .bool _) rfl rfl) ⟨congrArg Value.bool (Eq.symm (by unfold roomS; rw [if_pos (anyA_some (p := fullS l) hlt19 (decide_eq_true (by assumption)))])), rfl⟩ (.cons _ (.refl _))
      · skip
        refine Cd.skip ?_
        refine hK17 ?_
        refine Cd.region [0, 1] rfl ?_
        refine Seq.rd0 at0 rfl rfl (O.add (by exact s12) rfl (by omega) (by omega)) ?_
        refine Seq.rd0 at1 rfl rfl (O.move (v := .int .i64 _) rfl) ?_
        refine Seq.nil ?_
        refine Ent.drop ?_
        exact hK13 _ (by omega) ⟨i + 1, nv, rfl, (by exact s8), (by exact s9), (by exact s10), (by exact s11), rfl, rfl, by rw [newN_step hlt19, if_neg (ne_true_of_eq_false (by assumption))]; omega, by omega, takeA_next hlt19 hz (decide_eq_false (by assumption))⟩
  · skip
    refine Cd.exit ?_
    refine hK3 ?_
    refine Cd.seq (fun K36 hK36 => ?_)
    refine Cd.region [0, 1, 2] rfl ?_
    refine Seq.rd0 at0 rfl rfl (O.move (v := .int .i64 _) (by exact s9)) ?_
    refine Seq.rd0 at1 rfl rfl (O.leq rfl rfl) ?_
    refine Seq.rd0 at2 rfl rfl (O.assign (v := .bool _) rfl) ?_
    refine Seq.nil ?_
    refine hK36 ?_
    refine Cd.ret ?_
    exact hR _ _ (Res.one (v := .bool _) rfl rfl) ⟨congrArg Value.bool (Eq.symm (by obtain rfl : i = ws.length := (by omega); unfold roomS; rw [if_neg (by rw [anyA_none rfl hz]; decide), decide_eq_decide]; omega)), rfl⟩ (.refl _)

end Go.X
