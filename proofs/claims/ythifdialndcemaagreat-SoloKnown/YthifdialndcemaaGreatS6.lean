/- Part 6 of the proofs over this program: what its functions compute. -/
import Derived.Test.YthifdialndcemaaGreatProg
import Derived.Deep.Slices
import Derived.Deep.Fields
import Derived.ChangeSame
import Derived.OpenShut
import Derived.Carry
import Derived.ProofKit
import Derived.LaidMore
import Derived.Test.YthifdialndcemaaGreatS5
set_option linter.unusedVariables false
set_option linter.unusedSimpArgs false

namespace Go.X
open Go.Proofs
theorem hb_171 : hasBody Tryz.prog 171 = true := by kernel_rfl
theorem hb_172 : hasBody Tryz.prog 172 = true := by kernel_rfl
theorem hb_173 : hasBody Tryz.prog 173 = true := by kernel_rfl
theorem perm3 {X G C1 C2 R : List Pt} (h : (G ++ C1).Perm C2) : (G ++ (X ++ (C1 ++ R))).Perm (X ++ (C2 ++ R)) := by
  refine (List.perm_append_comm_assoc _ _ _).trans (List.Perm.append_left X ?_)
  rw [← List.append_assoc]; exact h.append_right R
/-- 'of', and the chain it gives in front -/
theorem C_ofTake {c : Cx} {X Cs R : List Pt} {sb : Nat} {l : List (Key × CV)} {k : Key} (hS : StAt c (X ++ (Cs ++ R)) sb l) (hC : ChOwn l Cs) : Fn Tryz.prog 170 #[.pointer (some ⟨sb, 0, none⟩), .agg (Key_enc k)] c (X ++ (Cs ++ R))
    (fun v L' => ∃ cb G C1, v = .pointer (some ⟨cb, 0, none⟩) ∧ One cb (getS l k) G ∧ (∀ vs' G', One cb vs' G' → ∃ Cs', ChOwn (aput l k (cb, vs')) Cs' ∧ (G' ++ C1).Perm Cs') ∧ L' = G ++ (X ++ (C1 ++ R))) := by
  cases hl : alook l k with
  | some q =>
    have hg : getS l k = q.2 := by unfold getS; rw [hl]
    obtain ⟨G, C1, hp, hO, hb⟩ := hC.take hl
    refine Fn.post (C_of_some hS hl) fun v L' ⟨hv, hL⟩ => ⟨_, ⟨q.1, G, C1, hv, by rw [hg]; exact hO, hb, rfl⟩, ?_⟩
    rw [hL]; exact (perm3 hp.symm).symm
  | none =>
    have hg : getS l k = [] := by unfold getS; rw [hl]
    refine Fn.mono (C_of_none hS hl) fun v L' ⟨b, hb, hv, hL⟩ => ⟨b, [_], Cs, hv, by rw [hg]; exact One.new, fun vs' G' hG' => hC.new hG' hl, hL⟩
theorem app_len {s : Stamp} {l l1 : List (Key × CV)} {ws : List Write} {i : Nat} (hA : AppS s l (ws.take i) l1) (h : l1.length ≤ l.length + newN l ws i) (hi : i < ws.length) (q : CV) :
    (aput l1 ws[i].key q).length ≤ l.length + newN l ws (i + 1) := by
  rw [aput_length, newN_step hi]
  split
  · split <;> omega
  · rename_i hn
    have hn2 : ws[i].key ∉ l.map Prod.fst := fun hm => hn ((hA.keys _).2 (.inr hm))
    rw [(alook_none hn2).1]
    simp; omega
theorem app_next {s : Stamp} {l l1 : List (Key × CV)} {ws : List Write} {i cb : Nat} (hA : AppS s l (ws.take i) l1) (hi : i < ws.length) :
    AppS s l (ws.take (i + 1)) (aput l1 ws[i].key (cb, afterPut (getS l1 ws[i].key) ⟨s, ws[i].val, ws[i].gone⟩)) := by
  rw [← List.take_append_getElem hi]; exact .snoc hA
section
variable {l : List (Key × CV)} {s : Stamp} {ws : List Write}
theorem app1 (h : ¬ s.good ∨ manyWs ws = false ∨ goodWs ws = false) : applyE l s ws = 1 := if_pos h
theorem app5 (h1 : decide s.good = true) (h2 : manyWs ws = true) (h3 : (!goodWs ws) = false) (h : (ws.any fun w => hasS (getS l w.key) s) = true) : applyE l s ws = 5 := by
  unfold applyE; rw [if_neg (by simp_all), if_pos h]
theorem app6 (h1 : decide s.good = true) (h2 : manyWs ws = true) (h3 : (!goodWs ws) = false) (h : (ws.any fun w => hasS (getS l w.key) s) = false) (h4 : (!roomS l ws) = true) : applyE l s ws = 6 := by
  unfold applyE; rw [if_neg (by simp_all), if_neg (by rw [h]; decide), if_pos (by simpa using h4)]
theorem app0 (h1 : decide s.good = true) (h2 : manyWs ws = true) (h3 : (!goodWs ws) = false) (h : (ws.any fun w => hasS (getS l w.key) s) = false) (h4 : (!roomS l ws) = false) : applyE l s ws = 0 := by
  unfold applyE; rw [if_neg (by simp_all), if_neg (by rw [h]; decide), if_neg (by simpa using h4)]
theorem roomS_len (h4 : (!roomS l ws) = false) : l.length + newN l ws ws.length ≤ 200 := by
  unfold roomS at h4
  split at h4
  · cases h4
  · simpa using h4
end

theorem newN_mono {l : List (Key × CV)} {ws : List Write} {i : Nat} (h : i ≤ ws.length) : newN l ws i ≤ newN l ws ws.length := by
  unfold newN
  exact ((List.take_sublist_take_left h).filter _).length_le

set_option maxRecDepth 100000 in
set_option maxHeartbeats 2000000 in
theorem C_Apply_own {c : Cx} {L : List Pt} {sb mb ck : Nat} {es : Array MapEntry} {Cs : List Pt} {l : List (Key × CV)} {s : Stamp} (hm : MapIs keyV cvV es ck l) (hC : ChOwn l Cs) (hsz : l.length ≤ 200) {av : Option Addr} {nw cw : Nat} {ws : List Write} (hW : SlAt c L Write_enc av nw ws) : Fn Tryz.prog 94 #[.pointer (some ⟨sb, 0, none⟩), .agg (Stamp_enc s), .slice av nw cw] c ((sb, .cells #[.map (some mb)] 245 (0, 0)) :: (mb, .map es ck) :: (Cs ++ L)) (fun v L' => v = .int .i64 (applyE l s ws) ∧ ∃ l' Ls', (applyE l s ws = 0 → AppS s l ws l') ∧ (¬ applyE l s ws = 0 → l' = l) ∧ StOwn sb l' Ls' ∧ L' = Ls' ++ L) := by
  have hwl := hW.len
  have hwt := hW.lt
  have hS := StOwn.at_ (c := c) (R := L) (sb := sb) (Ls := (sb, .cells #[.map (some mb)] 245 (0, 0)) :: (mb, .map es ck) :: Cs) ⟨⟨mb, es, ck, Cs, rfl, hm, hC⟩, hsz⟩
  refine Fn.enter Tryz.func94 rfl 68 rfl rfl (fun R hR => ?_)
  refine Cd.seq (fun K1 hK1 => ?_)
  refine Cd.region [0, 1] rfl ?_
  refine Seq.op at0 rfl (Op.new rfl (O.box (v := .agg _) rfl (cs := (Stamp_enc s)) rfl) ?_)
  intro b2 hb2
  refine Seq.rd0 at1 rfl rfl (O.assign (v := .int .i64 _) rfl) ?_
  refine Seq.nil ?_
  refine hK1 ?_
  refine Cd.seq (fun K3 hK3 => ?_)
  refine Cd.seq (fun K4 hK4 => ?_)
  refine Cd.region [0, 1, 2, 3, 4, 5, 6, 7, 8, 9, 10, 11, 12] rfl ?_
  refine Seq.rd1 at0 rfl rfl (O.loadA kd_24 rfl (Nat.le_of_ble_eq_true rfl) (Stamp_all _)) Rd.head ?_
  refine Seq.op at1 rfl (Op.callF rfl hb_98 C_stamp_Good rfl ?_)
  rintro _ _ ⟨rfl, rfl⟩
  refine Seq.rd0 at2 rfl rfl (O.not rfl) ?_
  refine Seq.rd0 at3 rfl rfl (O.move (v := .bool _) rfl) ?_
  cases t5 : decide (s).good
  · skip
    refine Seq.pass at4 rfl rfl ?_
    refine Seq.pass at5 rfl rfl ?_
    refine Seq.pass at6 rfl rfl ?_
    refine Seq.rd0 at7 rfl rfl (O.pickT (v := .bool _) rfl rfl) ?_
    refine Seq.rd0 at8 rfl rfl (O.move (v := .bool _) rfl) ?_
    refine Seq.pass at9 rfl rfl ?_
    refine Seq.pass at10 rfl rfl ?_
    refine Seq.pass at11 rfl rfl ?_
    refine Seq.rd0 at12 rfl rfl (O.pickT (v := .bool _) rfl rfl) ?_
    refine Seq.nil ?_
    refine hK4 ?_
    refine Cd.condT rfl ?_
    refine Cd.seq (fun K6 hK6 => ?_)
    refine Cd.region [0] rfl ?_
    refine Seq.rd0 at0 rfl rfl (O.assign (v := .int .i64 _) rfl) ?_
    refine Seq.nil ?_
    refine hK6 ?_
    refine Cd.ret ?_
    have hap : applyE l s ws = 1 := by
      first | exact app1 (.inl (of_decide_eq_false (by assumption))) | exact app1 (.inr (.inl (by assumption))) | (have h9 : (!goodWs ws) = true := by assumption); exact app1 (.inr (.inr (by simpa using h9)))
    have hst : StOwn sb l ((sb, .cells #[.map (some mb)] 245 (0, 0)) :: (mb, .map es ck) :: Cs) := ⟨⟨mb, es, ck, Cs, rfl, hm, hC⟩, hsz⟩
    exact hR _ _ (Res.one (v := .int .i64 _) rfl rfl) ⟨by rw [hap], l, _, fun h => absurd (hap.symm.trans h) (by decide), fun _ => rfl, hst, rfl⟩ (.cons _ (.refl _))
  · skip
    refine Seq.rd0 at4 rfl rfl (O.move (v := .slice _ _ _) rfl) ?_
    refine Seq.op at5 rfl (Op.callF rfl hb_169 (C_Many hW.app.cons.cons.cons) rfl ?_)
    rintro _ _ ⟨rfl, rfl⟩
    refine Seq.rd0 at6 rfl rfl (O.not rfl) ?_
    refine Seq.rd0 at7 rfl rfl (O.pickF (v := .bool _) rfl rfl) ?_
    refine Seq.rd0 at8 rfl rfl (O.move (v := .bool _) rfl) ?_
    cases t7 : manyWs ws
    · skip
      refine Seq.pass at9 rfl rfl ?_
      refine Seq.pass at10 rfl rfl ?_
      refine Seq.pass at11 rfl rfl ?_
      refine Seq.rd0 at12 rfl rfl (O.pickT (v := .bool _) rfl rfl) ?_
      refine Seq.nil ?_
      refine hK4 ?_
      refine Cd.condT rfl ?_
      refine Cd.seq (fun K8 hK8 => ?_)
      refine Cd.region [0] rfl ?_
      refine Seq.rd0 at0 rfl rfl (O.assign (v := .int .i64 _) rfl) ?_
      refine Seq.nil ?_
      refine hK8 ?_
      refine Cd.ret ?_
      have hap : applyE l s ws = 1 := by
        first | exact app1 (.inl (of_decide_eq_false (by assumption))) | exact app1 (.inr (.inl (by assumption))) | (have h9 : (!goodWs ws) = true := by assumption); exact app1 (.inr (.inr (by simpa using h9)))
      have hst : StOwn sb l ((sb, .cells #[.map (some mb)] 245 (0, 0)) :: (mb, .map es ck) :: Cs) := ⟨⟨mb, es, ck, Cs, rfl, hm, hC⟩, hsz⟩
      exact hR _ _ (Res.one (v := .int .i64 _) rfl rfl) ⟨by rw [hap], l, _, fun h => absurd (hap.symm.trans h) (by decide), fun _ => rfl, hst, rfl⟩ (.cons _ (.refl _))
    · skip
      refine Seq.rd0 at9 rfl rfl (O.move (v := .slice _ _ _) rfl) ?_
      refine Seq.op at10 rfl (Op.callF rfl hb_105 (C_store_Good hW.app.cons.cons.cons) rfl ?_)
      rintro _ _ ⟨rfl, rfl⟩
      refine Seq.rd0 at11 rfl rfl (O.not rfl) ?_
      refine Seq.rd0 at12 rfl rfl (O.pickF (v := .bool _) rfl rfl) ?_
      refine Seq.nil ?_
      refine hK4 ?_
      refine Cd.cond (!(goodWs ws)) rfl (fun t9 => ?_) (fun t9 => ?_)
      · skip
        refine Cd.seq (fun K10 hK10 => ?_)
        refine Cd.region [0] rfl ?_
        refine Seq.rd0 at0 rfl rfl (O.assign (v := .int .i64 _) rfl) ?_
        refine Seq.nil ?_
        refine hK10 ?_
        refine Cd.ret ?_
        have hap : applyE l s ws = 1 := by
          first | exact app1 (.inl (of_decide_eq_false (by assumption))) | exact app1 (.inr (.inl (by assumption))) | (have h9 : (!goodWs ws) = true := by assumption); exact app1 (.inr (.inr (by simpa using h9)))
        have hst : StOwn sb l ((sb, .cells #[.map (some mb)] 245 (0, 0)) :: (mb, .map es ck) :: Cs) := ⟨⟨mb, es, ck, Cs, rfl, hm, hC⟩, hsz⟩
        exact hR _ _ (Res.one (v := .int .i64 _) rfl rfl) ⟨by rw [hap], l, _, fun h => absurd (hap.symm.trans h) (by decide), fun _ => rfl, hst, rfl⟩ (.cons _ (.refl _))
      · skip
        refine Cd.skip ?_
        refine hK3 ?_
        refine Cd.seq (fun K11 hK11 => ?_)
        refine Cd.seq (fun K12 hK12 => ?_)
        refine Cd.region [0, 1, 2] rfl ?_
        refine Seq.rd0 at0 rfl rfl (O.move (v := .slice _ _ _) rfl) ?_
        refine Seq.rd0 at1 rfl rfl (O.lenS ds_25 rfl) ?_
        refine Seq.rd0 at2 rfl rfl (O.move (v := .int .i64 _) rfl) ?_
        refine Seq.nil ?_
        refine hK12 ?_
        refine Cd.block ?_
        refine Cd.loop (fun m13 e14 L15 => ∃ i : Nat, m13 = ws.length - i ∧ e14 0 = .pointer (some ⟨sb, 0, none⟩) ∧ e14 2 = .slice av nw cw ∧ e14 4 = .pointer (some ⟨b2, 0, none⟩) ∧ e14 25 = .slice av nw cw ∧ e14 26 = .int .i64 (nw : Int) ∧ e14 27 = .int .i64 (i : Int) ∧ L15 = (b2, .cells (Stamp_enc s) 24 (0, 0)) :: (sb, .cells #[.map (some mb)] 245 (0, 0)) :: (mb, .map es ck) :: (Cs ++ (L)) ∧ i ≤ ws.length ∧ (∀ x ∈ ws.take i, hasS (getS l x.key) s = false)) _ ⟨0, rfl, rfl, rfl, rfl, rfl, rfl, rfl, rfl, Nat.zero_le _, fun w hw => by simp at hw⟩ ?_
        rintro _ e14 _ ⟨i, rfl, s16, s17, s18, s19, s20, s21, rfl, hi, hz⟩ K22 hK22
        refine Cd.seq (fun K23 hK23 => ?_)
        refine Cd.region [0] rfl ?_
        refine Seq.rd0 at0 rfl rfl (O.lss (by exact s21) (by exact s20)) ?_
        refine Seq.nil ?_
        refine hK23 ?_
        refine Cd.seq (fun K24 hK24 => ?_)
        refine Cd.if ((i : Int) < (nw : Int)) rfl (fun t25 => ?_) (fun t25 => ?_)
        · skip
          refine Cd.skip ?_
          refine hK24 ?_
          refine Cd.seq (fun K26 hK26 => ?_)
          refine Cd.block ?_
          refine Cd.seq (fun K27 hK27 => ?_)
          refine Cd.region [0, 1, 2, 3] rfl ?_
          have hlt28 : i < ws.length := by omega
          obtain ⟨pre28, sp28, el28, fz28, hav28, hrd28⟩ := hW.at_ hlt28
          refine Seq.rd0 at0 rfl rfl (O.indexG sl_25 (by exact s19) hav28 (by exact s21) (by omega) (by omega)) ?_
          refine Seq.rd1 at1 rfl rfl (O.loadA kd_47 rfl (rowRoomP Write_size (getN hlt28)) (rowAtP Write_size (getN hlt28))) hrd28.app.cons.cons.cons ?_
          refine Seq.op at2 rfl (Op.new rfl (O.alloc zo_47 (cs := (Write_enc Write.zero)) rfl) ?_)
          intro b29 hb29
          refine Seq.op at3 rfl (Op.set0 rfl (O.store kd_47 rfl (v := .agg _) rfl (Write_size _) (Write_room (Write_size _)) (Write_one _) (Write_put _ (Write_size _))) ?_)
          refine Seq.nil ?_
          refine hK27 ?_
          refine Cd.seq (fun K30 hK30 => ?_)
          refine Cd.draw 6 rfl po ?_
          refine Any.rd0 0 at0 rfl rfl (O.move (v := .pointer _) (by exact s16)) (by kernel_rfl) (by kernel_rfl) (by kernel_rfl) ?_
          refine Any.rd0 1 at1 rfl rfl (O.field fo_47_0 rfl) (by kernel_rfl) (by kernel_rfl) (by kernel_rfl) ?_
          refine Any.rd1 2 at2 rfl rfl (O.loadA kd_45 rfl (Nat.le_of_ble_eq_true rfl) (Write_key _)) Rd.head (by kernel_rfl) (by kernel_rfl) (by kernel_rfl) ?_
          refine Any.rd1 4 at4 rfl rfl (O.loadA kd_24 (by exact s18) (Nat.le_of_ble_eq_true rfl) (Stamp_all _)) Rd.head.cons (by kernel_rfl) (by kernel_rfl) (by kernel_rfl) ?_
          refine Any.one 3 at3 rfl (by kernel_rfl) ⟨⟨trivial, Rd.head⟩, Rd.head.cons⟩ ?_
          refine Op.callF rfl hb_170 (C_of (k := ws[i].key) hS.cons.cons) rfl ?_
          rintro _ _ ⟨cb31, G32, rfl, rfl, hc33, hc33s, hc33n⟩
          refine Any.toK ?_
          refine Any.one 5 at5 rfl (by kernel_rfl) ⟨⟨trivial, Rd.head.app⟩, Rd.head.cons.app⟩ ?_
          refine Op.callF rfl hb_171 (C_chain_Has hc33s hc33n hc33) rfl ?_
          rintro _ _ ⟨rfl, rfl⟩
          refine Ent.sub ?_ (sub_app (.refl _))
          refine Any.toK ?_
          refine Any.done (by kernel_rfl) ⟨⟨trivial, Rd.head⟩, Rd.head.cons⟩ ?_
          refine hK30 ?_
          refine Cd.cond ((hasS (getS l ws[i].key) s)) rfl (fun t34 => ?_) (fun t34 => ?_)
          · skip
            refine Cd.seq (fun K35 hK35 => ?_)
            refine Cd.region [0] rfl ?_
            refine Seq.rd0 at0 rfl rfl (O.assign (v := .int .i64 _) rfl) ?_
            refine Seq.nil ?_
            refine hK35 ?_
            refine Cd.ret ?_
            have hap : applyE l s ws = 5 := app5 (by assumption) (by assumption) (by assumption) (anyA_some (p := fun w : Write => hasS (getS l w.key) s) hlt28 (by assumption))
            have hst : StOwn sb l ((sb, .cells #[.map (some mb)] 245 (0, 0)) :: (mb, .map es ck) :: Cs) := ⟨⟨mb, es, ck, Cs, rfl, hm, hC⟩, hsz⟩
            exact hR _ _ (Res.one (v := .int .i64 _) rfl rfl) ⟨by rw [hap], l, _, fun h => absurd (hap.symm.trans h) (by decide), fun _ => rfl, hst, rfl⟩ (.cons _ (.cons _ (.refl _)))
          · skip
            refine Cd.skip ?_
            refine hK26 ?_
            refine Cd.region [0, 1] rfl ?_
            refine Seq.rd0 at0 rfl rfl (O.add (by exact s21) rfl (by omega) (by omega)) ?_
            refine Seq.rd0 at1 rfl rfl (O.move (v := .int .i64 _) rfl) ?_
            refine Seq.nil ?_
            refine Ent.drop ?_
            exact hK22 _ (by omega) ⟨i + 1, rfl, (by exact s16), (by exact s17), (by exact s18), (by exact s19), (by exact s20), rfl, rfl, by omega, takeA_next (p := fun x : Write => hasS (getS l x.key) s) hlt28 hz (by assumption)⟩
        · skip
          refine Cd.exit ?_
          refine hK11 ?_
          refine Cd.seq (fun K36 hK36 => ?_)
          refine Cd.seq (fun K37 hK37 => ?_)
          refine Cd.region [0, 1, 2, 3] rfl ?_
          refine Seq.rd0 at0 rfl rfl (O.move (v := .pointer _) (by exact s16)) ?_
          refine Seq.rd0 at1 rfl rfl (O.move (v := .slice _ _ _) (by exact s17)) ?_
          refine Seq.op at2 rfl (Op.callF rfl hb_172 (C_store_room (hS.cons) (hW.app.cons.cons.cons)) rfl ?_)
          rintro _ _ ⟨rfl, rfl⟩
          refine Seq.rd0 at3 rfl rfl (O.not rfl) ?_
          refine Seq.nil ?_
          refine hK37 ?_
          refine Cd.cond (!(roomS l ws)) rfl (fun t38 => ?_) (fun t38 => ?_)
          · skip
            refine Cd.seq (fun K39 hK39 => ?_)
            refine Cd.region [0] rfl ?_
            refine Seq.rd0 at0 rfl rfl (O.assign (v := .int .i64 _) rfl) ?_
            refine Seq.nil ?_
            refine hK39 ?_
            refine Cd.ret ?_
            have hap : applyE l s ws = 6 := app6 (by assumption) (by assumption) (by assumption) (anyA_none (p := fun w : Write => hasS (getS l w.key) s) (by omega) hz) (by assumption)
            have hst : StOwn sb l ((sb, .cells #[.map (some mb)] 245 (0, 0)) :: (mb, .map es ck) :: Cs) := ⟨⟨mb, es, ck, Cs, rfl, hm, hC⟩, hsz⟩
            exact hR _ _ (Res.one (v := .int .i64 _) rfl rfl) ⟨by rw [hap], l, _, fun h => absurd (hap.symm.trans h) (by decide), fun _ => rfl, hst, rfl⟩ (.cons _ (.refl _))
          · skip
            refine Cd.skip ?_
            refine hK36 ?_
            refine Cd.seq (fun K40 hK40 => ?_)
            refine Cd.seq (fun K41 hK41 => ?_)
            refine Cd.region [0, 1, 2] rfl ?_
            refine Seq.rd0 at0 rfl rfl (O.move (v := .slice _ _ _) (by exact s17)) ?_
            refine Seq.rd0 at1 rfl rfl (O.lenS ds_25 rfl) ?_
            refine Seq.rd0 at2 rfl rfl (O.move (v := .int .i64 _) rfl) ?_
            refine Seq.nil ?_
            refine hK41 ?_
            refine Cd.block ?_
            have hany : (ws.any fun w => hasS (getS l w.key) s) = false := anyA_none (by omega) hz
            have hrm := roomS_len (by assumption)
            refine Cd.loop (fun m42 e43 L44 => ∃ i : Nat, ∃ l1 : List (Key × CV), ∃ es1 : Array MapEntry, ∃ ck1 : Nat, ∃ Cs1 : List Pt, m42 = ws.length - i ∧ e43 0 = .pointer (some ⟨sb, 0, none⟩) ∧ e43 4 = .pointer (some ⟨b2, 0, none⟩) ∧ e43 42 = .slice av nw cw ∧ e43 43 = .int .i64 (nw : Int) ∧ e43 44 = .int .i64 (i : Int) ∧ L44 = (b2, .cells (Stamp_enc s) 24 (0, 0)) :: (sb, .cells #[.map (some mb)] 245 (0, 0)) :: (mb, .map es1 ck1) :: (Cs1 ++ (L)) ∧ i ≤ ws.length ∧ AppS s l (ws.take i) l1 ∧ MapIs keyV cvV es1 ck1 l1 ∧ ChOwn l1 Cs1 ∧ l1.length ≤ l.length + newN l ws i) _ ⟨0, l, es, ck, Cs, rfl, (by exact s16), (by exact s18), rfl, rfl, rfl, rfl, Nat.zero_le _, by exact .nil, hm, hC, by omega⟩ ?_
            rintro _ e43 _ ⟨i, l1, es1, ck1, Cs1, rfl, s45, s46, s47, s48, s49, rfl, hi2, hA, hm1, hC1, hl1⟩ K50 hK50
            have hnw : newN l ws i ≤ newN l ws ws.length := newN_mono (by omega)
            refine Cd.seq (fun K51 hK51 => ?_)
            refine Cd.region [0] rfl ?_
            refine Seq.rd0 at0 rfl rfl (O.lss (by exact s49) (by exact s48)) ?_
            refine Seq.nil ?_
            refine hK51 ?_
            refine Cd.seq (fun K52 hK52 => ?_)
            refine Cd.if ((i : Int) < (nw : Int)) rfl (fun t53 => ?_) (fun t53 => ?_)
            · skip
              refine Cd.skip ?_
              refine hK52 ?_
              refine Cd.seq (fun K54 hK54 => ?_)
              refine Cd.block ?_
              refine Cd.seq (fun K55 hK55 => ?_)
              refine Cd.region [0, 1, 2, 3] rfl ?_
              have hlt56 : i < ws.length := by omega
              obtain ⟨pre56, sp56, el56, fz56, hav56, hrd56⟩ := hW.at_ hlt56
              refine Seq.rd0 at0 rfl rfl (O.indexG sl_25 (by exact s47) hav56 (by exact s49) (by omega) (by omega)) ?_
              refine Seq.rd1 at1 rfl rfl (O.loadA kd_47 rfl (rowRoomP Write_size (getN hlt56)) (rowAtP Write_size (getN hlt56))) hrd56.app.cons.cons.cons ?_
              refine Seq.op at2 rfl (Op.new rfl (O.alloc zo_47 (cs := (Write_enc Write.zero)) rfl) ?_)
              intro b57 hb57
              refine Seq.op at3 rfl (Op.set0 rfl (O.store kd_47 rfl (v := .agg _) rfl (Write_size _) (Write_room (Write_size _)) (Write_one _) (Write_put _ (Write_size _))) ?_)
              refine Seq.nil ?_
              refine hK55 ?_
              refine Cd.seq (fun K58 hK58 => ?_)
              refine Cd.region [0, 1, 2, 3, 4] rfl ?_
              refine Seq.rd0 at0 rfl rfl (O.move (v := .pointer _) (by exact s45)) ?_
              refine Seq.rd0 at1 rfl rfl (O.field fo_47_0 rfl) ?_
              refine Seq.rd1 at2 rfl rfl (O.loadA kd_45 rfl (Nat.le_of_ble_eq_true rfl) (Write_key _)) Rd.head ?_
              have hSt : StAt c ([(b57, .cells (Write_enc ws[i]) 47 (0, 0)), (b2, .cells (Stamp_enc s) 24 (0, 0)), (sb, .cells #[.map (some mb)] 245 (0, 0)), (mb, .map es1 ck1)] ++ (Cs1 ++ L)) sb l1 := (StOwn.at_ (R := L) (Ls := (sb, _) :: (mb, _) :: Cs1) ⟨⟨mb, es1, ck1, Cs1, rfl, hm1, hC1⟩, by omega⟩).cons.cons
              refine Seq.op at3 rfl (Op.callF rfl hb_170 (C_ofTake (k := ws[i].key) (X := [(b57, _), (b2, _), (sb, _), (mb, _)]) (R := L) hSt hC1) rfl ?_)
              rintro _ _ ⟨cb, G, Cr, rfl, hO, hback, rfl⟩
              refine Seq.rd0 at4 rfl rfl (O.assign (v := .pointer _) rfl) ?_
              refine Seq.nil ?_
              refine hK58 ?_
              refine Cd.seq (fun K59 hK59 => ?_)
              refine Cd.region [0, 1, 2, 3, 4, 5, 6, 7] rfl ?_
              refine Seq.rd0 at0 rfl rfl (O.move (v := .pointer _) rfl) ?_
              refine Seq.rd1 at1 rfl rfl (O.loadA kd_24 (by exact s46) (Nat.le_of_ble_eq_true rfl) (Stamp_all _)) Rd.head.cons.app ?_
              refine Seq.rd0 at2 rfl rfl (O.field fo_47_1 rfl) ?_
              refine Seq.rd1 at3 rfl rfl (O.load kd_9 rfl (Write_val _)) Rd.head.app ?_
              refine Seq.rd0 at4 rfl rfl (O.field fo_47_2 rfl) ?_
              refine Seq.rd1 at5 rfl rfl (O.load kd_4 rfl (Write_gone _)) Rd.head.app ?_
              refine Seq.rd0 at6 rfl rfl (O.build rfl (cs := (Version_enc (⟨s, ws[i].val, ws[i].gone⟩ : Version))) (by kernel_rfl)) ?_
              refine Seq.op at7 rfl (Op.callF rfl hb_173 (C_Put (x := (⟨s, ws[i].val, ws[i].gone⟩ : Version)) hO) rfl ?_)
              rintro _ _ ⟨rfl, G2, hO2, rfl⟩
              obtain ⟨Cs2, hC2, hp2⟩ := hback _ _ hO2
              refine Ent.perm ?_ (perm3 (X := [(b57, _), (b2, _), (sb, _), (mb, _)]) (R := L) hp2)
              refine Seq.nil ?_
              refine hK59 ?_
              refine Cd.draw 8 rfl po ?_
              refine Any.rd0 0 at0 rfl rfl (O.move (v := .pointer _) (by exact s45)) (by kernel_rfl) (by kernel_rfl) (by kernel_rfl) ?_
              refine Any.rd0 1 at1 rfl rfl (O.nilP rfl) (by kernel_rfl) (by kernel_rfl) (by kernel_rfl) ?_
              refine Any.rd0 2 at2 rfl rfl (O.field fo_245_0 rfl) (by kernel_rfl) (by kernel_rfl) (by kernel_rfl) ?_
              refine Any.rd1 3 at3 rfl rfl (O.load kd_243 rfl r1_0) Rd.head.cons.cons (by kernel_rfl) (by kernel_rfl) (by kernel_rfl) ?_
              refine Any.rd0 4 at4 rfl rfl (O.field fo_47_0 rfl) (by kernel_rfl) (by kernel_rfl) (by kernel_rfl) ?_
              refine Any.rd1 5 at5 rfl rfl (O.loadA kd_45 rfl (Nat.le_of_ble_eq_true rfl) (Write_key _)) Rd.head (by kernel_rfl) (by kernel_rfl) (by kernel_rfl) ?_
              refine Any.rd0 6 at6 rfl rfl (O.move (v := .pointer _) rfl) (by kernel_rfl) (by kernel_rfl) (by kernel_rfl) ?_
              refine Any.one 7 at7 rfl (by kernel_rfl) ⟨⟨trivial, Rd.head.cons.cons⟩, Rd.head⟩ ?_
              refine Op.gen rfl (O.mapSet (encV := cvV) (u := (cb, afterPut (getS l1 ws[i].key) (⟨s, ws[i].val, ws[i].gone⟩ : Version))) mp_243 kk_key hm1 rfl (by exact rfl) rfl (A := [(b57, _), (b2, _), (sb, _)]) rfl) ?_
              rintro _ _ ⟨rfl, es2, ck2, hm2, rfl⟩
              refine Any.toK ?_
              refine Any.done (by kernel_rfl) ⟨⟨trivial, Rd.head.cons.cons⟩, Rd.head⟩ ?_
              refine hK54 ?_
              refine Cd.region [0, 1] rfl ?_
              refine Seq.rd0 at0 rfl rfl (O.add (by exact s49) rfl (by omega) (by omega)) ?_
              refine Seq.rd0 at1 rfl rfl (O.move (v := .int .i64 _) rfl) ?_
              refine Seq.nil ?_
              refine Ent.drop ?_
              exact hK50 _ (by omega) ⟨i + 1, _, es2, ck2, Cs2, rfl, (by exact s45), (by exact s46), (by exact s47), (by exact s48), rfl, rfl, by omega, app_next hA hlt56, hm2, hC2, app_len hA hl1 hlt56 _⟩
            · skip
              refine Cd.exit ?_
              refine hK40 ?_
              refine Cd.seq (fun K60 hK60 => ?_)
              refine Cd.region [0] rfl ?_
              refine Seq.rd0 at0 rfl rfl (O.assign (v := .int .i64 _) rfl) ?_
              refine Seq.nil ?_
              refine hK60 ?_
              refine Cd.ret ?_
              have hap : applyE l s ws = 0 := app0 (by assumption) (by assumption) (by assumption) hany (by assumption)
              have hwi : i = ws.length := by omega
              have hst : StOwn sb l1 ((sb, .cells #[.map (some mb)] 245 (0, 0)) :: (mb, .map es1 ck1) :: Cs1) := ⟨⟨mb, es1, ck1, Cs1, rfl, hm1, hC1⟩, by rw [hwi] at hl1; omega⟩
              exact hR _ _ (Res.one (v := .int .i64 _) rfl rfl) ⟨by rw [hap], l1, _, fun _ => by rw [hwi, List.take_length] at hA; exact hA, fun h => absurd hap h, hst, rfl⟩ (.cons _ (.refl _))

theorem C_Apply {c : Cx} {R Ls : List Pt} {sb : Nat} {l : List (Key × CV)} {s : Stamp} {av : Option Addr} {nw cw : Nat} {ws : List Write} (hS : StOwn sb l Ls) (hW : SlAt c R Write_enc av nw ws) :
    Fn Tryz.prog 94 #[.pointer (some ⟨sb, 0, none⟩), .agg (Stamp_enc s), .slice av nw cw] c (Ls ++ R) (fun v L' => v = .int .i64 (applyE l s ws) ∧ ∃ l' Ls', (applyE l s ws = 0 → AppS s l ws l') ∧ (¬ applyE l s ws = 0 → l' = l) ∧ StOwn sb l' Ls' ∧ L' = Ls' ++ R) := by
  obtain ⟨⟨mb, es, ck, Cs, rfl, h1, h2⟩, h3⟩ := hS
  exact C_Apply_own (L := R) h1 h2 h3 hW

end Go.X

namespace Go.X
open Go.Proofs
section
variable {el : List (I64 × EV)} {hl : List (Key × I64)} {ti : I64} {e : Entry} {ws : List Write}
end
/-- an own slice of writes, in front of other blocks -/
def EntsAt (J : List Pt) (el : List (I64 × EV)) : Prop := ∀ id q, alook el id = some q → (∀ (c : Cx) (R : List Pt), SlAt c (J ++ R) Write_enc q.1.ws.a q.1.ws.n q.2) ∧ q.2.length ≤ 16
theorem EntsAt.put {J Ls : List Pt} {el : List (I64 × EV)} {ti : I64} {e : Entry} {ws : List Write} {av : Option Addr} {cap n : Nat} (h : EntsAt J el) (hn : n = ws.length) (h16 : ws.length ≤ 16) (ho : OwnSl 47 18 (rows Write_enc ws) n (.slice av n cap) Ls) :
    EntsAt (Ls ++ J) (aput el ti ({ e with ws := ⟨av, n, cap⟩ }, ws)) := by
  intro id q hq
  by_cases hi : id = ti
  · subst hi
    rw [alook_put_same] at hq
    obtain rfl := Option.some.inj hq
    refine ⟨fun c R => ?_, h16⟩
    rw [List.append_assoc]
    have hlt : n < 4611686018427387904 := by omega
    exact OwnSl.at_ ho hn hlt
  · rw [alook_put_ne _ hi] at hq
    refine ⟨fun c R => ?_, (h id q hq).2⟩
    rw [List.append_assoc]
    exact ((h id q hq).1 c R).app
theorem EntsAt.del {J : List Pt} {el : List (I64 × EV)} {ti : I64} (h : EntsAt J el) (hn : (el.map Prod.fst).Nodup) : EntsAt J (adel el ti) := by
  intro id q hq
  by_cases hi : id = ti
  · subst hi; rw [alook_del_same hn] at hq; cases hq
  · rw [alook_del_ne hi] at hq; exact h id q hq
theorem EntsAt.ent {J : List Pt} {el : List (I64 × EV)} (h : EntsAt J el) (ti : I64) (c : Cx) (R : List Pt) : SlAt c (J ++ R) Write_enc (entT el ti).1.ws.a (entT el ti).1.ws.n (entT el ti).2 := by
  unfold entT
  cases hq : alook el ti with
  | none => exact ⟨rfl, by decide, fun h => absurd rfl h⟩
  | some q => exact (h ti q hq).1 c R

end Go.X

/- PartOver's law: what is over stays over. -/
namespace Go.X
/-- what is over is committed or aborted -/
def Over23 (ol : List (I64 × Int)) : Prop := ∀ q ∈ ol, q.2 = 2 ∨ q.2 = 3
theorem Over23.look {ol : List (I64 × Int)} (h : Over23 ol) {ti : I64} (hs : (alook ol ti).isSome = true) : (alook ol ti).getD 0 = 2 ∨ (alook ol ti).getD 0 = 3 := by
  cases hl : alook ol ti with
  | none => rw [hl] at hs; cases hs
  | some v => exact h _ (alook_mem hl)
theorem aput_mem {K V : Type} [DecidableEq K] {k : K} {v : V} {q : K × V} : ∀ {l : List (K × V)}, q ∈ aput l k v → q = (k, v) ∨ q ∈ l
  | [], h => .inl (by simpa [aput] using h)
  | (y, u) :: l, h => by
    unfold aput at h
    split at h
    · rcases List.mem_cons.1 h with h | h
      · exact .inl h
      · exact .inr (List.mem_cons_of_mem _ h)
    · rcases List.mem_cons.1 h with h | h
      · exact .inr (h ▸ List.mem_cons_self)
      · exact (aput_mem h).imp_right (List.mem_cons_of_mem _)
theorem Over23.put {ol : List (I64 × Int)} (h : Over23 ol) (ti : I64) {v : Int} (hv : v = 2 ∨ v = 3) : Over23 (aput ol ti v) := by
  intro q hq
  rcases aput_mem hq with rfl | hq
  · exact hv
  · exact h q hq
theorem state_none {ol : List (I64 × Int)} {el : List (I64 × EV)} {ti : I64} (h : Over23 ol) : stateP ol el ti = 0 ↔ alook ol ti = none ∧ alook el ti = none := by
  unfold stateP
  cases ho : alook ol ti with
  | some v => have := h _ (alook_mem ho); rcases this with h | h <;> simp at h ⊢ <;> omega
  | none => cases he : alook el ti <;> simp
theorem state_one {ol : List (I64 × Int)} {el : List (I64 × EV)} {ti : I64} (h : Over23 ol) : stateP ol el ti = 1 ↔ alook ol ti = none ∧ (alook el ti).isSome = true := by
  unfold stateP
  cases ho : alook ol ti with
  | some v => have := h _ (alook_mem ho); rcases this with h | h <;> simp at h ⊢ <;> omega
  | none => cases he : alook el ti <;> simp
/-- from was to is -/
def Fine (was is : Int) : Prop := ¬ (2 ≤ was ∧ is ≠ was ∨ was = 1 ∧ is = 0)
end Go.X

namespace Go.X
open Go.Proofs
theorem hb_94 : hasBody Tryz.prog 94 = true := by kernel_rfl
theorem TbOwn.nodup {tb : Nat} {el : List (I64 × EV)} {hl : List (Key × I64)} {Ls : List Pt} (h : TbOwn tb el hl Ls) : (el.map Prod.fst).Nodup ∧ (hl.map Prod.fst).Nodup := by
  obtain ⟨⟨lm, es1, ck1, hm, es2, ck2, J, rfl, h1, h2, h3⟩, h4⟩ := h
  exact ⟨h1.keys, h2.keys⟩
theorem mayP_zero {l : List (Key × CV)} {el : List (I64 × EV)} {hl : List (Key × I64)} {ol : List (I64 × Int)} {ti : I64} {e : Entry} {ws : List Write} (h : mayP l el hl ol ti e ws = 0) :
    stateP ol el ti = 0 ∧ conflictP l hl e.snap ws = false ∧ roomP l el hl ws = true := by
  unfold mayP at h
  split at h
  · cases h
  · split at h
    · cases h
    · split at h
      · cases h
      · split at h
        · cases h
        · exact ⟨by simp_all, by simp_all, by simp_all⟩
theorem add_zero {l : List (Key × CV)} {el : List (I64 × EV)} {hl : List (Key × I64)} {ol : List (I64 × Int)} {ti : I64} {e : Entry} {ws : List Write} (hov : Over23 ol) (hg : goodE e ws = true) (h : mayP l el hl ol ti e ws = 0) : addE el hl ti e ws = 0 := by
  obtain ⟨h1, h2, h3⟩ := mayP_zero h
  obtain ⟨_, he⟩ := (state_none hov).1 h1
  unfold conflictP at h2
  rw [Bool.or_eq_false_iff] at h2
  unfold roomP at h3
  split at h3
  · cases h3
  · rw [decide_eq_true_eq] at h3
    unfold addE
    rw [if_neg (by rw [hg]; decide), if_neg (by rw [he]; decide), if_neg (by rw [h2.1]; decide), if_neg h3.1]
/-- does Commit go on? what does it answer? -/
def goC (l : List (Key × CV)) (ol : List (I64 × Int)) (el : List (I64 × EV)) (ti : I64) (s : Stamp) : Prop := canCommitP l ol el ti s = 0 ∧ ¬ stateP ol el ti = 2
instance (l : List (Key × CV)) (ol : List (I64 × Int)) (el : List (I64 × EV)) (ti : I64) (s : Stamp) : Decidable (goC l ol el ti s) := by unfold goC; infer_instance
def commitE (l : List (Key × CV)) (ol : List (I64 × Int)) (el : List (I64 × EV)) (ti : I64) (s : Stamp) : Int := if goC l ol el ti s then applyE l s (entT el ti).2 else canCommitP l ol el ti s

end Go.X

/- The promise: what is prepared can be committed. Plain. -/
namespace Go.X
/-- an entry is good, its keys are its own, nothing is above its snapshot, there is room -/
structure EntOk (l : List (Key × CV)) (hl : List (Key × I64)) (ti : I64) (q : EV) : Prop where
  good : goodE q.1 q.2 = true
  held : ∀ w ∈ q.2, alook hl w.key = some ti
  snap : ∀ w ∈ q.2, ∀ v ∈ getS l w.key, ¬ 0 < v.stamp.cmp q.1.snap
  room : ∀ w ∈ q.2, (getS l w.key).length < 50
structure Inv (l : List (Key × CV)) (el : List (I64 × EV)) (hl : List (Key × I64)) (ol : List (I64 × Int)) : Prop where
  ln : (l.map Prod.fst).Nodup
  en : (el.map Prod.fst).Nodup
  hn : (hl.map Prod.fst).Nodup
  sorted : ∀ k, Sorted (getS l k)
  over : Over23 ol
  free : ∀ ti q, alook el ti = some q → alook ol ti = none
  ent : ∀ ti q, alook el ti = some q → EntOk l hl ti q
  hold : ∀ k ti, alook hl k = some ti → ∃ q, alook el ti = some q ∧ k ∈ q.2.map (·.key)
  room : (once (l.map Prod.fst ++ hl.map Prod.fst)).length ≤ 200
theorem Inv.nil : Inv [] [] [] [] :=
  ⟨by simp, by simp, by simp, fun k => by simp [getS, alook, Sorted], by intro q hq; simp at hq, by intro ti q h; simp [alook] at h, by intro ti q h; simp [alook] at h, by intro k ti h; simp [alook] at h, by decide⟩
theorem goodE_parts {e : Entry} {ws : List Write} (h : goodE e ws = true) : 1 ≤ e.id ∧ e.snap.good ∧ manyWs ws = true ∧ goodWs ws = true ∧ e.stamp.good ∧ 0 < e.stamp.cmp e.snap := by
  unfold goodE mayE at h
  simp only [Bool.and_eq_true, decide_eq_true_eq] at h
  exact ⟨h.1.1, h.1.2.1, h.1.2.2.1, h.1.2.2.2, h.2.1, h.2.2⟩
theorem goodWs_nodup {ws : List Write} (h : goodWs ws = true) : (ws.map (·.key)).Nodup := by
  unfold goodWs at h
  rw [Bool.and_eq_true, decide_eq_true_eq] at h
  exact h.2
theorem goodWs_mem {ws : List Write} (h : goodWs ws = true) {w : Write} (hw : w ∈ ws) : goodK w.key = true ∧ w.val.size ≤ 200 ∧ ¬ (w.gone = true ∧ ¬ w.val = ⟨#[]⟩) := by
  unfold goodWs at h
  rw [Bool.and_eq_true, List.all_eq_true] at h
  have := h.1 w hw
  unfold goodW at this
  simp only [Bool.and_eq_true, decide_eq_true_eq, Bool.not_eq_true', Bool.and_eq_false_iff, Bool.not_eq_false', decide_eq_false_iff_not] at this
  refine ⟨this.1.1, this.1.2, fun ⟨h1, h2⟩ => ?_⟩
  rcases this.2 with h3 | h3
  · rw [h1] at h3; cases h3
  · exact h2 h3
theorem alook_some_of_mem {K V : Type} [DecidableEq K] {k : K} {l : List (K × V)} (h : k ∈ l.map Prod.fst) : ∃ v, alook l k = some v := by
  cases hl : alook l k with
  | some v => exact ⟨v, rfl⟩
  | none =>
    induction l with
    | nil => simp at h
    | cons q l ih =>
      obtain ⟨y, u⟩ := q
      unfold alook at hl
      split at hl
      · cases hl
      · rename_i hne
        simp only [List.map_cons, List.mem_cons] at h
        rcases h with h | h
        · exact absurd h.symm hne
        · exact ih h hl
theorem mem_of_alook {K V : Type} [DecidableEq K] {k : K} {v : V} {l : List (K × V)} (h : alook l k = some v) : k ∈ l.map Prod.fst := List.mem_map.2 ⟨_, alook_mem h, rfl⟩
theorem once_le {a b : List Key} (h : ∀ k ∈ a, k ∈ b) : (once a).length ≤ (once b).length :=
  nodup_le (once_nodup a) fun k hk => (once_mem k b).2 (h k ((once_mem k a).1 hk))
theorem dropL_look : ∀ {ws : List Write} {hl : List (Key × I64)} (_h : (hl.map Prod.fst).Nodup) (k : Key), alook (dropL hl ws) k = if k ∈ ws.map (·.key) then none else alook hl k
  | [], hl, _, k => by simp [dropL]
  | w :: ws, hl, hn, k => by
    have hn2 : ((adel hl w.key).map Prod.fst).Nodup := ((adel_sub w.key hl).map _).nodup hn
    rw [show dropL hl (w :: ws) = dropL (adel hl w.key) ws from rfl, dropL_look hn2 k, List.map_cons]
    by_cases h1 : k ∈ ws.map (·.key)
    · rw [if_pos h1, if_pos (List.mem_cons_of_mem _ h1)]
    · rw [if_neg h1]
      by_cases h2 : k = w.key
      · subst h2; rw [alook_del_same hn, if_pos List.mem_cons_self]
      · rw [alook_del_ne h2, if_neg (by rw [List.mem_cons, not_or]; exact ⟨h2, h1⟩)]
end Go.X

namespace Go.X
open Go.Proofs

section
variable {P : Program} {e : Env} {d : Option Tmp} {ty : TypeId} {p : String} {af : Array Edge} {g : Option (Nat × Bool)} {x y : Operand}
theorem O.indexT {t : TypeId} {s : ByteArray} {k : IntKind} {i : Int} {b : UInt8} (ht : isDesc P t = 3) (hx : ev e x = .string s) (hy : ev e y = .int k i) (h0 : 0 ≤ i) (hb : s[i.toNat]? = some b) :
    Rn0 P e ⟨d, .index t x y, ty, p, af, g⟩ (.int .u8 (b.toNat : Int)) := fun w => by
  have hu : P.underlying t = some .string := desc_str ht
  simp [execOp, Instr.index, hx, hy, asIntOf, run_under hu, h0, hb]
theorem O.lenTl {t : TypeId} {l : List UInt8} (ht : isDesc P t = 3) (hx : ev e x = .string ⟨l.toArray⟩) :
    Rn0 P e ⟨d, .call { callee := .builtin .len, args := #[x], argTypes := #[t] }, ty, p, af, g⟩ (.int .i64 (l.length : Int)) := by
  have := O.lenT (d := d) (ty := ty) (p := p) (af := af) (g := g) ht hx
  have h2 : (⟨l.toArray⟩ : ByteArray).size = l.length := by show l.toArray.size = _; simp
  rw [h2] at this; exact this
end
theorem bytes_get {l : List UInt8} {i : Nat} (h : i < l.length) : (⟨l.toArray⟩ : ByteArray)[((i : Nat) : Int).toNat]? = some l[i] := by
  rw [Int.toNat_natCast, getElem?_pos (⟨l.toArray⟩ : ByteArray) i (by show i < l.toArray.size; simpa using h)]
  rfl
theorem padK_l {l : List UInt8} (h : l.length ≤ 16) : (padK l).l = l ++ List.replicate (16 - l.length) 0 := by unfold padK; rw [dif_pos h]
theorem padK_put {l : List UInt8} {i : Nat} (hi : i < l.length) (h16 : l.length ≤ 16) : putL (Key_enc (padK (l.take i))) (0 + ((i : Nat) : Int).toNat * 1) [.int .u8 (l[i].toNat : Int)] = Key_enc (padK (l.take (i + 1))) := by
  have h1 : (l.take i).length = i := by rw [List.length_take]; omega
  have h2 : (l.take (i + 1)).length = i + 1 := by rw [List.length_take]; omega
  rw [Key_cells, Key_cells, padK_l (by omega), padK_l (by omega), h1, h2, show 16 - i = (16 - (i + 1)) + 1 by omega, List.replicate_succ, ← List.take_append_getElem hi]
  have := put_mid (cs := ((l.take i ++ 0 :: List.replicate (16 - (i + 1)) 0).map byteV).toArray) (pre := ((l.take i).map byteV).toArray) (mid := #[byteV 0]) (post := ((List.replicate (16 - (i + 1)) (0 : UInt8)).map byteV).toArray) (v := #[byteV l[i]]) (o := 0 + ((i : Nat) : Int).toNat * 1)
    (by simp) rfl (by simp only [List.size_toArray, List.length_map, h1]; omega)
  rw [show ([.int .u8 (l[i].toNat : Int)] : List Value) = (#[byteV l[i]] : Array Value).toList from rfl, this]
  apply Array.ext'
  simp only [Array.toList_append, List.map_append, List.map_cons, List.map_nil, List.append_assoc]
set_option maxRecDepth 100000 in
set_option maxHeartbeats 2000000 in
theorem C_ref_Of {c : Cx} {L : List Pt} {l : List UInt8} (hok : okT l = true) : Fn Tryz.prog 103 #[.string ⟨l.toArray⟩] c L (fun v L' => v = .tuple #[.agg (Key_enc (padK l)), .bool true] ∧ L' = L) := by
  obtain ⟨hne, h16, hz0⟩ : l ≠ [] ∧ l.length ≤ 16 ∧ (0 : UInt8) ∉ l := by unfold okT at hok; exact of_decide_eq_true hok
  have hpos : 0 < l.length := List.length_pos_iff.2 hne
  refine Fn.enter Tryz.func103 rfl 33 rfl rfl (fun R hR => ?_)
  refine Cd.seq (fun K1 hK1 => ?_)
  refine Cd.region [0, 1] rfl ?_
  refine Seq.op at0 rfl (Op.new rfl (O.alloc zo_45 (cs := (Key_enc Key.zero)) rfl) ?_)
  intro b2 hb2
  refine Seq.rd0 at1 rfl rfl (O.assign (v := .bool _) rfl) ?_
  refine Seq.nil ?_
  refine hK1 ?_
  refine Cd.seq (fun K3 hK3 => ?_)
  refine Cd.region [0, 1, 2] rfl ?_
  refine Seq.rd0 at0 rfl rfl (O.build rfl (cs := (Key_enc Key.zero)) (by kernel_rfl)) ?_
  refine Seq.op at1 rfl (Op.new rfl (O.alloc zo_45 (cs := (Key_enc Key.zero)) rfl) ?_)
  intro b4 hb4
  refine Seq.op at2 rfl (Op.set0 rfl (O.store kd_45 rfl (v := .agg _) rfl (Key_size _) (Key_room (Key_size _)) (Key_one _) (Key_put _ (Key_size _))) ?_)
  refine Seq.nil ?_
  refine hK3 ?_
  refine Cd.seq (fun K5 hK5 => ?_)
  refine Cd.seq (fun K6 hK6 => ?_)
  refine Cd.region [0, 1, 2, 3, 4, 5, 6, 7] rfl ?_
  refine Seq.rd0 at0 rfl rfl (O.move (v := .string _) rfl) ?_
  refine Seq.rd0 at1 rfl rfl (O.lenTl ds_9 rfl) ?_
  refine Seq.rd0 at2 rfl rfl (O.lss rfl rfl) ?_
  refine Seq.rd0 at3 rfl rfl (O.move (v := .bool _) rfl) ?_
  have t7 : ¬ ((l.length : Int) < 1) := by omega
  rw [decide_eq_false t7]
  refine Seq.rd0 at4 rfl rfl (O.move (v := .string _) rfl) ?_
  refine Seq.rd0 at5 rfl rfl (O.lenTl ds_9 rfl) ?_
  refine Seq.rd0 at6 rfl rfl (O.gtr rfl rfl) ?_
  refine Seq.rd0 at7 rfl rfl (O.pickF (v := .bool _) rfl rfl) ?_
  refine Seq.nil ?_
  refine hK6 ?_
  refine Cd.if ((16 : Int) < (l.length : Int)) rfl (fun t8 => ?_) (fun t8 => ?_)
  · skip
    omega
  · skip
    refine Cd.skip ?_
    refine hK5 ?_
    refine Cd.seq (fun K9 hK9 => ?_)
    refine Cd.seq (fun K10 hK10 => ?_)
    refine Cd.region [0] rfl ?_
    refine Seq.rd0 at0 rfl rfl (O.assign (v := .int .i64 _) rfl) ?_
    refine Seq.nil ?_
    refine hK10 ?_
    refine Cd.block ?_
    refine Cd.loop (fun m11 e12 L13 => ∃ i : Nat, m11 = l.length - i ∧ e12 0 = .string (⟨l.toArray⟩ : ByteArray) ∧ e12 2 = .pointer (some ⟨b2, 0, none⟩) ∧ e12 4 = .pointer (some ⟨b4, 0, none⟩) ∧ e12 5 = .int .i64 (i : Int) ∧ L13 = (b4, .cells (Key_enc (padK (l.take i))) 45 (0, 0)) :: (b2, .cells (Key_enc Key.zero) 45 (0, 0)) :: L ∧ i ≤ l.length) _ ⟨0, rfl, rfl, rfl, rfl, rfl, rfl, Nat.zero_le _⟩ ?_
    rintro _ e12 _ ⟨i, rfl, s14, s15, s16, s17, rfl, hi⟩ K18 hK18
    refine Cd.seq (fun K19 hK19 => ?_)
    refine Cd.seq (fun K20 hK20 => ?_)
    refine Cd.region [0, 1, 2, 3] rfl ?_
    refine Seq.rd0 at0 rfl rfl (O.move (v := .int .i64 _) (by exact s17)) ?_
    refine Seq.rd0 at1 rfl rfl (O.move (v := .string _) (by exact s14)) ?_
    refine Seq.rd0 at2 rfl rfl (O.lenTl ds_9 rfl) ?_
    refine Seq.rd0 at3 rfl rfl (O.lss rfl rfl) ?_
    refine Seq.nil ?_
    refine hK20 ?_
    refine Cd.if ((i : Int) < (l.length : Int)) rfl (fun t21 => ?_) (fun t21 => ?_)
    · skip
      refine Cd.skip ?_
      refine hK19 ?_
      refine Cd.seq (fun K22 hK22 => ?_)
      refine Cd.block ?_
      refine Cd.seq (fun K23 hK23 => ?_)
      refine Cd.seq (fun K24 hK24 => ?_)
      refine Cd.region [0, 1, 2, 3] rfl ?_
      refine Seq.rd0 at0 rfl rfl (O.move (v := .string _) (by exact s14)) ?_
      refine Seq.rd0 at1 rfl rfl (O.move (v := .int .i64 _) (by exact s17)) ?_
      have hlt24 : i < l.length := by omega
      refine Seq.rd0 at2 rfl rfl (O.indexT ds_9 rfl rfl (by omega) (bytes_get hlt24)) ?_
      refine Seq.rd0 at3 rfl rfl (O.eqI rfl rfl) ?_
      refine Seq.nil ?_
      refine hK24 ?_
      refine Cd.if ((l[i].toNat : Int) = 0) rfl (fun t25 => ?_) (fun t25 => ?_)
      · skip
        exact absurd (show l[i] = 0 from UInt8.toNat_inj.1 (by simpa using t25)) (fun e => hz0 (e ▸ List.getElem_mem _))
      · skip
        refine Cd.skip ?_
        refine hK23 ?_
        refine Cd.region [0, 1, 2, 3, 4, 5] rfl ?_
        refine Seq.rd0 at0 rfl rfl (O.move (v := .int .i64 _) (by exact s17)) ?_
        refine Seq.rd0 at1 rfl rfl (O.move (v := .string _) (by exact s14)) ?_
        refine Seq.rd0 at2 rfl rfl (O.move (v := .int .i64 _) (by exact s17)) ?_
        have hlt30 : i < l.length := by omega
        refine Seq.rd0 at3 rfl rfl (O.indexT ds_9 rfl rfl (by omega) (bytes_get hlt30)) ?_
        refine Seq.rd0 at4 rfl rfl (O.indexA ar_45 (by exact s16) rfl (by omega) (by omega)) ?_
        refine Seq.op at5 rfl (Op.set0 rfl (O.store1 kd_5 rfl (v := .int .u8 _) rfl (by rw [Key_size]; omega) rfl (cs' := Key_enc (padK (l.take (i + 1)))) (padK_put hlt30 (by omega))) ?_)
        refine Seq.nil ?_
        refine hK22 ?_
        refine Cd.region [0, 1, 2] rfl ?_
        refine Seq.rd0 at0 rfl rfl (O.move (v := .int .i64 _) (by exact s17)) ?_
        refine Seq.rd0 at1 rfl rfl (O.add rfl rfl (by omega) (by omega)) ?_
        refine Seq.rd0 at2 rfl rfl (O.assign (v := .int .i64 _) rfl) ?_
        refine Seq.nil ?_
        exact hK18 _ (by omega) ⟨i + 1, rfl, (by exact s14), (by exact s15), (by exact s16), rfl, rfl, by omega⟩
    · skip
      refine Cd.exit ?_
      refine hK9 ?_
      refine Cd.seq (fun K26 hK26 => ?_)
      refine Cd.region [0, 1, 2] rfl ?_
      refine Seq.rd1 at0 rfl rfl (O.loadA kd_45 (by exact s16) (Nat.le_of_ble_eq_true rfl) (Key_all _)) Rd.head ?_
      refine Seq.op at1 rfl (Op.set1 rfl (O.store kd_45 (by exact s15) (v := .agg _) rfl (Key_size _) (Key_room (Key_size _)) (Key_one _) (Key_put _ (Key_size _))) ?_)
      refine Seq.rd0 at2 rfl rfl (O.assign (v := .bool _) rfl) ?_
      refine Seq.nil ?_
      refine hK26 ?_
      refine Cd.ret ?_
      have hil : i = l.length := by omega
      exact hR _ _ (Res.cell2 (v := .bool _) rfl kd_45 (by exact s15) rfl Rd.head.cons rfl) ⟨by rw [hil, List.take_length], rfl⟩ (.cons _ (.cons _ (.refl _)))

end Go.X

namespace Go.X
open Go.Proofs
theorem hb_103 : hasBody Tryz.prog 103 = true := by kernel_rfl
theorem AppS.one {s : Stamp} {l l' : List (Key × CV)} {w : Write} (h : AppS s l [w] l') : ∃ cb, l' = aput l w.key (cb, afterPut (getS l w.key) ⟨s, w.val, w.gone⟩) := by
  generalize hw : [w] = ws at h
  cases h with
  | nil => cases hw
  | snoc h =>
    rename_i ws l1 w' cb
    cases ws with
    | nil =>
      simp only [List.nil_append, List.cons.injEq, and_true] at hw
      subst hw
      generalize hn : ([] : List Write) = ws0 at h
      cases h with
      | nil => exact ⟨cb, rfl⟩
      | snoc h => exact absurd (congrArg List.length hn) (by simp)
    | cons a ws => exact absurd (congrArg List.length hw) (by simp)
theorem SlAt.one {c : Cx} {L : List Pt} {α : Type} {enc : α → Array Value} {b el : Nat} {x : α} (h : Rd c L b (.cells (rows enc [x]) el (0, 0))) : SlAt c L enc (some ⟨b, 0, none⟩) 1 [x] :=
  ⟨rfl, by decide, fun _ => ⟨#[], #[], el, (0, 0), rfl, by show Rd c L b (.cells (#[] ++ (rows enc [x] ++ #[])) el (0, 0)); rw [Array.append_empty, Array.empty_append]; exact h⟩⟩
def kA : Key := padK [97]
def i1 : I64 := ⟨1, by decide⟩
def eA (sv : Sv) : Entry := ⟨1, ⟨0, 0⟩, ⟨5, 0⟩, sv⟩
def wA : Write := ⟨kA, ⟨#[118]⟩, false⟩
theorem okA : okT [97] = true := by rfl
end Go.X

namespace Go.X
open Go.Proofs
end Go.X

/- Records, acts: plain. -/
namespace Go.X
structure Record where
  kind : Int
  id : Int
  snap : Stamp
  stamp : Stamp
  ws : Sv
  yes : Bool
  parts : Sv
  deriving DecidableEq
def Record_enc (a : Record) : Array Value := #[.int .i64 a.kind, .int .i64 a.id, .int .i64 a.snap.t, .int .u8 a.snap.n, .int .i64 a.stamp.t, .int .u8 a.stamp.n, .slice a.ws.a a.ws.n a.ws.c, .bool a.yes, .slice a.parts.a a.parts.n a.parts.c]
def Record.zero : Record := ⟨0, 0, .zero, .zero, ⟨none, 0, 0⟩, false, ⟨none, 0, 0⟩⟩
structure Act where
  op : Int
  e : Entry
  at_ : Stamp
  r : Record
  deriving DecidableEq
def Act_enc (a : Act) : Array Value := #[.int .i64 a.op, .int .i64 a.e.id, .int .i64 a.e.snap.t, .int .u8 a.e.snap.n, .int .i64 a.e.stamp.t, .int .u8 a.e.stamp.n, .slice a.e.ws.a a.e.ws.n a.e.ws.c, .int .i64 a.at_.t, .int .u8 a.at_.n, .int .i64 a.r.kind, .int .i64 a.r.id, .int .i64 a.r.snap.t, .int .u8 a.r.snap.n, .int .i64 a.r.stamp.t, .int .u8 a.r.stamp.n, .slice a.r.ws.a a.r.ws.n a.r.ws.c, .bool a.r.yes, .slice a.r.parts.a a.r.parts.n a.r.parts.c]
def Act.zero : Act := ⟨0, .zero, .zero, .zero⟩
end Go.X

namespace Go.X
open Go.Proofs
/-- an act's numbers are numbers; its writes can be read -/
def ActOk (c : Cx) (L : List Pt) (x : Act) : Prop := (Lit.int .i64 x.e.id).wf = true ∧ ∃ ws, SlAt c L Write_enc x.e.ws.a x.e.ws.n ws
section
variable {pb : Nat} {Lp : List Pt} {l : List (Key × CV)} {el : List (I64 × EV)} {hl : List (Key × I64)} {ol : List (I64 × Int)} {ti : I64} {en : Entry} {ws : List Write} {s : Stamp}
end

end Go.X

/- Arguments that are handed in: what they hold, as rows that can be read. -/
namespace Go.X
open Go.ChangeShapes Go.WideShapes Go.Deep
section
variable {H : Type} {en : TypeId × Value → H} {P : Program} {w : World} {base : Nat} {spare : Nat → Bool} {held : Bool}
def fieldAt (P : Program) (t i : Nat) : Option (Nat × Nat) := ((P.fieldsOf t)[i]?).map fun f => (f.type, f.offset)
/-- a datum's parts are not too great -/
def Fits (P : Program) (t : TypeId) (d : DataW H) : Prop := ∀ m ∈ d.weights P t, m ≤ reachBytes
/-- a slice that was handed in can be read, as long as nothing outside is written -/
def Given {α : Type} (w : World) (enc : α → Array Value) (av : Option Addr) (n : Nat) (xs : List α) : Prop :=
  ∀ (c : Cx) (L : List Pt), c.w0 = w → (∀ b, ¬ c.F b) → SlAt c L enc av n xs
end
end Go.X

namespace Go.X
open Go.Proofs

open Go.ChangeShapes Go.WideShapes Go.Deep Go.RowKit
/-- a write's row is handed in -/
def wsIn (w : World) (v : Sv) : Prop := ∃ ws : List Write, Given w Write_enc v.a v.n ws

theorem st_nil (W : World) : St ⟨W, fun _ => False⟩ [] W := ⟨Mod.refl _ _, by simp, by simp, by simp⟩
theorem Mod.below {W W' : World} (h : Mod (fun _ => False) W W') : Below W.heap.size W W' := ⟨h.os, h.tape, h.output, h.size, fun k hk => h.block k hk (fun h => h)⟩
/-- the row's conclusion, where old memory is as it was -/
theorem post_below {H : Type} {enc : TypeId × Value → H} {P : Program} {f : Func} {s : ChangeSpec} {apart fresh handsOn again : Bool} {W W' : World} {args : Array Value} {v : Value} {ds gs : List (DataW H)} {before pa pv : List MemPlace}
    (hW : DataW.Whole enc P f.params.toList s.vars apart W args.toList ds gs before) (hb : Below W.heap.size W W')
    (hres : ∀ (b : Nat) (sp : Nat → Bool) (hd : Bool), DataW.TrodAll enc P W' b sp hd f.resultTypes.toList (v.resultList f.resultTypes.size) (s.fn H (ds ++ gs)).results [])
    (hargs : ∀ sp : Nat → Bool, (∀ p ∈ before, sp p.block = true) → DataW.TrodAll enc P W' 0 sp true f.params.toList args.toList (s.fn H (ds ++ gs)).args pa)
    (hvars : ∀ sp : Nat → Bool, (∀ p ∈ before, sp p.block = true) → DataW.TrodVars enc P W' sp s.vars (s.fn H (ds ++ gs)).vars pv)
    (hps : before = pa ++ pv)
    (hok : ∀ (j : Nat) (t : TypeId) (r : Value), f.resultTypes[j]? = some t → (v.resultList f.resultTypes.size)[j]? = some r → Value.okWide P W' .any 0 t r) :
    s.post enc P f apart fresh handsOn again W args v W' := by
  have hold : ∀ p ∈ before, (fun b => decide (b < W.heap.size)) p.block = true := fun p hp => by simpa using hW.lt p hp
  have hlt := hW.lt
  refine ⟨ds, gs, before, [], pa, pv, hW, hres _ _ _, hargs _ hold, hvars _ hold, hb.frame _, fun _ => ?_⟩
  obtain ⟨_, _, _, _, _, hz, hn⟩ := hW
  refine ⟨hok, _, _, ([] ++ pa) ++ pv, ⟨[] ++ pa, pv, trodAll_append (hargs _ (fun _ _ => rfl)) (hres _ _ _), hvars _ (fun _ _ => rfl), rfl, ?_, ?_⟩, ?_⟩
  · intro b off hp
    have hp' : MemPlace.cell b off ∈ before := by rw [hps]; simpa using hp
    rw [hb.frozen (by exact hlt _ hp')]
    exact hz b off hp'
  · intro ha
    have := hn ha
    rw [hps] at this
    simpa using this
  · intro p hp _
    rw [hps]
    simpa using hp
end Go.X

/- The promise, kept: Commit, Abort. Plain. -/
namespace Go.X
section
variable {l : List (Key × CV)} {el : List (I64 × EV)} {hl : List (Key × I64)} {ol : List (I64 × Int)} {ti : I64}
theorem entT_some {q : EV} (h : alook el ti = some q) : entT el ti = q := by unfold entT; rw [h]; rfl
theorem entT_none (h : alook el ti = none) : entT el ti = evz := by unfold entT; rw [h]; rfl
/-- a held key of another one stays held -/
theorem Inv.other (hI : Inv l el hl ol) {t : I64} {q : EV} (ht : t ≠ ti) (hq : alook el t = some q) {w : Write} (hw : w ∈ q.2) : w.key ∉ (entT el ti).2.map (·.key) := by
  intro hm
  obtain ⟨w', hw', hk⟩ := List.mem_map.1 hm
  cases he : alook el ti with
  | none => rw [entT_none he] at hw'; simp [evz] at hw'
  | some q0 =>
    rw [entT_some he] at hw'
    have h1 := (hI.ent ti q0 he).held w' hw'
    have h2 := (hI.ent t q hq).held w hw
    rw [show w'.key = w.key from hk, h2] at h1
    exact ht (Option.some.inj h1)
theorem Inv.drop (hI : Inv l el hl ol) {v : Int} (hv : v = 2 ∨ v = 3) : Inv l (adel el ti) (dropL hl (entT el ti).2) (aput ol ti v) := by
  refine ⟨hI.ln, (adel_sub ti el).map _ |>.nodup hI.en, dropL_sub.map _ |>.nodup hI.hn, hI.sorted, hI.over.put ti hv, ?_, ?_, ?_, ?_⟩
  · intro t q hq
    have ht : t ≠ ti := fun e => by subst e; rw [alook_del_same hI.en] at hq; cases hq
    rw [alook_del_ne ht] at hq
    rw [alook_put_ne _ ht]; exact hI.free t q hq
  · intro t q hq
    have ht : t ≠ ti := fun e => by subst e; rw [alook_del_same hI.en] at hq; cases hq
    rw [alook_del_ne ht] at hq
    obtain ⟨h1, h2, h3, h4⟩ := hI.ent t q hq
    refine ⟨h1, fun w hw => ?_, h3, h4⟩
    rw [dropL_look hI.hn, if_neg (hI.other ht hq hw)]
    exact h2 w hw
  · intro k t hk
    rw [dropL_look hI.hn] at hk
    split at hk
    · cases hk
    · rename_i hn
      obtain ⟨q, h1, h2⟩ := hI.hold k t hk
      have ht : t ≠ ti := fun e => by subst e; rw [entT_some h1] at hn; exact hn h2
      exact ⟨q, by rw [alook_del_ne ht]; exact h1, h2⟩
  · refine Nat.le_trans (once_le fun k hk => ?_) hI.room
    rw [List.mem_append] at hk ⊢
    exact hk.imp_right fun h => (dropL_sub.map _).subset h
theorem afterPut_sorted {vs : List Version} {x : Version} (h : Sorted vs) : Sorted (afterPut vs x) := by
  unfold afterPut
  split
  · rename_i h0
    refine putV_sorted h ?_
    unfold putE at h0
    split at h0
    · cases h0
    · split at h0
      · cases h0
      · simp_all
  · exact h
theorem AppS.nodup {s : Stamp} {ws : List Write} {l' : List (Key × CV)} (h : AppS s l ws l') (hn : (l.map Prod.fst).Nodup) : (l'.map Prod.fst).Nodup := by
  induction h with
  | nil => exact hn
  | snoc _ ih => exact aput_nodup _ _ ih
theorem AppS.sorted {s : Stamp} {ws : List Write} {l' : List (Key × CV)} (h : AppS s l ws l') (hn : ∀ k, Sorted (getS l k)) : ∀ k, Sorted (getS l' k) := by
  induction h with
  | nil => exact hn
  | snoc _ ih => intro k; rw [getS_put]; split
                 · exact afterPut_sorted (ih _)
                 · exact ih k
/-- a transaction is committed -/
theorem Inv.commit (hI : Inv l el hl ol) {s : Stamp} {l' : List (Key × CV)} (hA : AppS s l (entT el ti).2 l') : Inv l' (adel el ti) (dropL hl (entT el ti).2) (aput ol ti 2) := by
  have hD := hI.drop (ti := ti) (v := 2) (.inl rfl)
  refine ⟨hA.nodup hI.ln, hD.en, hD.hn, hA.sorted hI.sorted, hD.over, hD.free, ?_, hD.hold, ?_⟩
  · intro t q hq
    obtain ⟨h1, h2, h3, h4⟩ := hD.ent t q hq
    have ht : t ≠ ti := fun e => by subst e; rw [alook_del_same hI.en] at hq; cases hq
    rw [alook_del_ne ht] at hq
    refine ⟨h1, h2, fun w hw => ?_, fun w hw => ?_⟩
    · rw [hA.getS_other (hI.other ht hq hw)]; exact h3 w hw
    · rw [hA.getS_other (hI.other ht hq hw)]; exact h4 w hw
  · refine Nat.le_trans (once_le fun k hk => ?_) hI.room
    rw [List.mem_append] at hk ⊢
    rcases hk with hk | hk
    · rcases (hA.keys k).1 hk with hk | hk
      · obtain ⟨w, hw, rfl⟩ := List.mem_map.1 hk
        cases he : alook el ti with
        | none => rw [entT_none he] at hw; simp [evz] at hw
        | some q0 =>
          rw [entT_some he] at hw
          exact .inr (mem_of_alook ((hI.ent ti q0 he).held w hw))
      · exact .inl hk
    · exact .inr ((dropL_sub.map _).subset hk)
/-- what is prepared can be applied -/
theorem apply_ok (hI : Inv l el hl ol) {q : EV} (hq : alook el ti = some q) {s : Stamp} (hg : s.good) (hu : q.2.any (usedS l s) = false) : applyE l s q.2 = 0 := by
  have hE := hI.ent ti q hq
  obtain ⟨_, _, hm, hw, _, _⟩ := goodE_parts hE.good
  have hnd := goodWs_nodup hw
  have hroom : roomS l q.2 = true := by
    unfold roomS
    rw [if_neg, decide_eq_true_eq]
    · have h1 : (l.map Prod.fst ++ (q.2.filter fun w => ((alook l w.key).map fun q => (⟨q.1, 0, none⟩ : Addr)).isNone).map (·.key)).length ≤ (once (l.map Prod.fst ++ hl.map Prod.fst)).length := by
        refine nodup_le ?_ fun k hk => ?_
        · rw [List.nodup_append]
          refine ⟨hI.ln, (List.filter_sublist.map _).nodup hnd, fun a ha b hb e => ?_⟩
          subst e
          obtain ⟨w, hw, hk⟩ := List.mem_map.1 hb
          obtain ⟨_, h2⟩ := List.mem_filter.1 hw
          obtain ⟨v, hv⟩ := alook_some_of_mem ha
          rw [show w.key = a from hk, hv] at h2
          cases h2
        · rw [once_mem, List.mem_append]
          rw [List.mem_append] at hk
          refine hk.imp_right fun hk => ?_
          obtain ⟨w, hw, rfl⟩ := List.mem_map.1 hk
          exact mem_of_alook (hE.held w (List.mem_filter.1 hw).1)
      have h2 := Nat.le_trans h1 hI.room
      rw [List.length_append, List.length_map, List.length_map] at h2
      unfold newN; rw [List.take_length]; exact h2
    · rw [Bool.not_eq_true, List.any_eq_false]
      intro w hw'
      have := hE.room w hw'
      unfold fullS
      simp only [decide_eq_true_eq]
      omega
  unfold applyE
  rw [if_neg, if_neg, if_neg (by rw [hroom]; decide)]
  · rw [Bool.not_eq_true]; exact hu
  · rintro (h | h | h)
    · exact h hg
    · rw [hm] at h; cases h
    · rw [hw] at h; cases h
end
/-! ## reads -/
theorem lt_of_cmp {a b : Stamp} (h : 0 < a.cmp b) : b.lt a := (cmp_pos a b).1 h
theorem below_all {vs : List Version} {s : Stamp} (h : ∀ v ∈ vs, v.stamp.lt s) : below vs s = vs.length := by
  refine below_eq (Nat.le_refl _) (fun k hk => (cmp_neg _ _).2 (h _ (List.getElem_mem _))) (fun h2 => absurd h2 (Nat.lt_irrefl _))
theorem hasS_no {vs : List Version} {s : Stamp} (h : ∀ v ∈ vs, v.stamp ≠ s) : hasS vs s = false := by
  unfold hasS; rw [List.any_eq_false]; intro v hv; simpa using h v hv
theorem hasS_yes {vs : List Version} {s : Stamp} {v : Version} (hv : v ∈ vs) (h : v.stamp = s) : hasS vs s = true := by
  unfold hasS; rw [List.any_eq_true]; exact ⟨v, hv, decide_eq_true h⟩
theorem below_app {A B : List Version} {s : Stamp} (hB : ∀ v ∈ B, ¬ v.stamp.lt s) : below (A ++ B) s = below A s := by
  unfold below
  rw [List.takeWhile_append]
  split
  · rename_i h
    have : B.takeWhile (fun v => decide (v.stamp.cmp s < 0)) = [] := by
      cases B with
      | nil => rfl
      | cons b B => rw [List.takeWhile_cons, if_neg]; simpa [cmp_neg] using hB b (by simp)
    rw [this, List.append_nil]
    rw [List.Sublist.eq_of_length (List.takeWhile_sublist _) h]
  · rfl
/-- a version above a time is not seen at it -/
theorem at_app {A B : List Version} {s : Stamp} (hA : Sorted A) (hB : ∀ v ∈ B, s.lt v.stamp) : atV (A ++ B) s = atV A s := by
  have h1 : below (A ++ B) s = below A s := below_app fun v hv h => Stamp.lt_irrefl _ (Stamp.lt_trans h (hB v hv))
  have h2 : hasS (A ++ B) s = hasS A s := by
    unfold hasS; rw [List.any_append]
    have : B.any (fun v => decide (v.stamp = s)) = false := by
      rw [List.any_eq_false]; intro v hv h
      have := hB v hv
      rw [of_decide_eq_true h] at this
      exact Stamp.lt_irrefl _ this
    rw [this, Bool.or_false]
  have h3 : upto (A ++ B) s = upto A s := by unfold upto; rw [h1, h2]
  unfold atV
  rw [h3]
  split
  · rfl
  · rename_i h
    have := upto_le (s := s) hA
    rw [List.getElem?_append_left (by omega)]
theorem Sorted.sub {A B : List Version} (h : Sorted B) (hs : A.Sublist B) : Sorted A := List.Pairwise.sublist hs h
theorem at_put {vs : List Version} {x : Version} {s : Stamp} (hs : Sorted vs) (hn : hasS vs x.stamp = false) (hx : s.lt x.stamp) : atV (putV vs x) s = atV vs s := by
  have hP := putV_sorted hs hn
  have hsp : vs = vs.take (below vs x.stamp) ++ vs.drop (below vs x.stamp) := (List.take_append_drop _ _).symm
  have hA : Sorted (vs.take (below vs x.stamp)) := hs.sub (List.take_sublist _ _)
  have hhi : ∀ v ∈ vs.drop (below vs x.stamp), x.stamp.lt v.stamp := by
    intro v hv
    unfold Sorted putV at hP
    rw [List.pairwise_append, List.pairwise_cons] at hP
    exact hP.2.1.1 v hv
  have e1 : atV (putV vs x) s = atV (vs.take (below vs x.stamp)) s := by
    unfold putV
    refine at_app hA fun v hv => ?_
    rcases List.mem_cons.1 hv with rfl | hv
    · exact hx
    · exact Stamp.lt_trans hx (hhi v hv)
  have e2 : atV vs s = atV (vs.take (below vs x.stamp)) s := by
    conv => lhs; rw [hsp]
    exact at_app hA fun v hv => Stamp.lt_trans hx (hhi v hv)
  rw [e1, e2]
theorem at_after {vs : List Version} {x : Version} {s : Stamp} (hs : Sorted vs) (hx : s.lt x.stamp) : atV (afterPut vs x) s = atV vs s := by
  unfold afterPut
  split
  · rename_i h0
    refine at_put hs ?_ hx
    unfold putE at h0
    split at h0
    · cases h0
    · split at h0
      · cases h0
      · simp_all
  · rfl
/-- the newest version is what is read at its time -/
theorem at_last {vs : List Version} {x : Version} (h : ∀ v ∈ vs, v.stamp.lt x.stamp) : atV (putV vs x) x.stamp = some x := by
  have hb : below vs x.stamp = vs.length := below_all h
  have hp : putV vs x = vs ++ [x] := by unfold putV; rw [hb]; simp
  have hb2 : below (vs ++ [x]) x.stamp = vs.length := by
    rw [below_app]
    · exact hb
    · intro v hv hl
      obtain rfl : v = x := by simpa using hv
      exact Stamp.lt_irrefl _ hl
  have hh : hasS (vs ++ [x]) x.stamp = true := hasS_yes (v := x) (by simp) rfl
  rw [hp]
  unfold atV upto
  rw [if_pos hh, hb2]
  simp
end Go.X

/- PartStill's law: what was read is read again. -/
namespace Go.X
section
variable {l : List (Key × CV)} {el : List (I64 × EV)} {hl : List (Key × I64)} {ol : List (I64 × Int)} {ti : I64} {k : Key} {s : Stamp} {now : Int}
/-- whoever is about to write the key does so above the time -/
def Stl (el : List (I64 × EV)) (k : Key) (s : Stamp) : Prop := ∀ t q, alook el t = some q → k ∈ q.2.map (·.key) → s.lt q.1.stamp
theorem read_is (hk : goodK k = true) (hs : s.good) (hb : (blocksT el hl k s).2 = false) (hn : ¬ now < s.t) : readP l el hl k s now = ((getV l k s).1, (getV l k s).2, 0) := by
  unfold readP
  rw [if_pos ⟨hk, hs⟩, if_neg]
  rintro (h | h)
  · rw [hb] at h; cases h
  · exact hn h
theorem Stl.of (hI : Inv l el hl ol) (hb : (blocksT el hl k s).2 = false) : Stl el k s := by
  intro t q hq hk
  obtain ⟨w, hw, rfl⟩ := List.mem_map.1 hk
  have hh := (hI.ent t q hq).held w hw
  unfold blocksT at hb
  rw [hh] at hb
  simp only [Option.isSome_some, if_true, Option.getD_some, hq] at hb
  split at hb
  · rename_i h; exact lt_of_cmp h
  · cases hb
theorem Stl.blocks (hI : Inv l el hl ol) (h : Stl el k s) : (blocksT el hl k s).2 = false := by
  unfold blocksT
  cases hh : alook hl k with
  | none => simp
  | some t =>
    obtain ⟨q, hq, hk⟩ := hI.hold k t hh
    have := (cmp_pos _ _).2 (h t q hq hk)
    simp only [Option.isSome_some, if_true, Option.getD_some, hq]
    rw [if_pos this]
theorem Stl.drop (hn : (el.map Prod.fst).Nodup) (h : Stl el k s) : Stl (adel el ti) k s := by
  intro t q hq hk
  by_cases ht : t = ti
  · subst ht; rw [alook_del_same hn] at hq; cases hq
  · rw [alook_del_ne ht] at hq; exact h t q hq hk
theorem stamp_ge {a b : Stamp} {c : Stamp} (h : ¬ a.cmp b < 0) (hc : c.lt b) : c.lt a := by
  rw [cmp_neg] at h
  rcases Stamp.lt_total a b with h1 | h1 | h1
  · exact absurd h1 h
  · rw [h1]; exact hc
  · exact Stamp.lt_trans hc h1
variable {pb : Nat} {Lp : List Pt} {en : Entry} {ws : List Write}
/-- what a step leaves -/
def Keeps (l : List (Key × CV)) (el : List (I64 × EV)) (l2 : List (Key × CV)) (el2 : List (I64 × EV)) (b : Stamp → Prop) : Prop := ∀ k s, b s → Stl el k s → Stl el2 k s ∧ getV l2 k s = getV l k s
end
end Go.X

namespace Go.X
open Go.Proofs
section
variable {a b : Stamp}
end

end Go.X

namespace Go.X
open Go.Proofs

section
open Go.ChangeShapes Go.WideShapes Go.Deep Go.RowKit
variable {H : Type} {en : TypeId × Value → H} {W : World} {r : Reach} {b0 base : Nat} {spare : Nat → Bool} {held : Bool} {v : Value} {d : DataW H} {p : List MemPlace}
end

end Go.X

/- PartHolds' law: what is prepared can be committed, and is read from then on. -/
namespace Go.X
section
variable {l : List (Key × CV)} {el : List (I64 × EV)} {hl : List (Key × I64)} {ol : List (I64 × Int)} {ti : I64}
/-- the entry is prepared -/
def HeldE (el : List (I64 × EV)) (ti : I64) (e : Entry) (ws : List Write) : Prop := ∃ sv, alook el ti = some ({ e with ws := sv }, ws)
/-- another one's place is as it was -/
def Same (ti : I64) (el el2 : List (I64 × EV)) : Prop := ∀ t, t ≠ ti → alook el2 t = alook el t
theorem HeldE.same {el2 : List (I64 × EV)} {t : I64} {e : Entry} {ws : List Write} (h : HeldE el t e ws) (hs : Same ti el el2) (ht : t ≠ ti) : HeldE el2 t e ws := by
  obtain ⟨sv, h1⟩ := h; exact ⟨sv, (hs t ht).trans h1⟩
variable {pb : Nat} {Lp : List Pt} {en : Entry} {ws : List Write}
theorem HeldE.good (hI : Inv l el hl ol) (h : HeldE el ti en ws) : goodE en ws = true := by
  obtain ⟨sv, h1⟩ := h
  have := (hI.ent ti _ h1).good
  exact this
theorem HeldE.entT (h : HeldE el ti en ws) : (Go.X.entT el ti).2 = ws ∧ (Go.X.entT el ti).1.stamp = en.stamp ∧ (Go.X.entT el ti).1.snap = en.snap := by
  obtain ⟨sv, h1⟩ := h
  rw [entT_some h1]; exact ⟨rfl, rfl, rfl⟩
theorem HeldE.state (hI : Inv l el hl ol) (h : HeldE el ti en ws) : stateP ol el ti = 1 := by
  obtain ⟨sv, h1⟩ := h
  rw [state_one hI.over, h1]
  exact ⟨hI.free ti _ h1, rfl⟩
/-- all versions of its keys are below its stamp, and below any that is not below that -/
theorem HeldE.below (hI : Inv l el hl ol) (h : HeldE el ti en ws) {c : Stamp} (hc : ¬ c.cmp en.stamp < 0) : ∀ w ∈ ws, ∀ v ∈ getS l w.key, v.stamp.lt c := by
  intro w hw v hv
  have hg := (goodE_parts (h.good hI)).2.2.2.2.2
  obtain ⟨sv, h1⟩ := h
  have h2 := (hI.ent ti _ h1).snap w hw v hv
  have h3 : v.stamp.lt en.stamp := by
    have h4 := lt_of_cmp hg
    have h5 : ¬ en.snap.lt v.stamp := fun h6 => h2 ((cmp_pos _ _).2 h6)
    rcases Stamp.lt_total v.stamp en.snap with h6 | h6 | h6
    · exact Stamp.lt_trans h6 h4
    · rw [h6]; exact h4
    · exact absurd h6 h5
  exact stamp_ge hc h3
theorem HeldE.can (hI : Inv l el hl ol) (h : HeldE el ti en ws) {c : Stamp} (hg : c.good) (hc : ¬ c.cmp en.stamp < 0) : canCommitP l ol el ti c = 0 ∧ ws.any (usedS l c) = false := by
  have hs := h.state hI
  have hb := h.below hI hc
  obtain ⟨h1, h2, _⟩ := h.entT
  have hu : ws.any (usedS l c) = false := by
    rw [List.any_eq_false]
    intro w hw
    have := hasS_no (vs := getS l w.key) (s := c) (fun v hv e => Stamp.lt_irrefl c (by have := hb w hw v hv; rwa [e] at this))
    unfold usedS; unfold hasS at this; rw [this]; decide
  refine ⟨?_, hu⟩
  unfold canCommitP
  rw [if_pos hg, if_neg (by omega), if_neg (by omega), if_neg (by omega), h2, if_neg hc, h1, if_neg (by rw [hu]; decide)]
theorem HeldE.commit (hI : Inv l el hl ol) (h : HeldE el ti en ws) {c : Stamp} (hg : c.good) (hc : ¬ c.cmp en.stamp < 0) : goC l ol el ti c ∧ applyE l c ws = 0 ∧ commitE l ol el ti c = 0 := by
  obtain ⟨h1, h2⟩ := h.can hI hg hc
  have h3 := h.state hI
  have hgo : goC l ol el ti c := ⟨h1, by omega⟩
  have ha : applyE l c ws = 0 := by
    obtain ⟨sv, h4⟩ := h
    exact apply_ok hI h4 hg h2
  refine ⟨hgo, ha, ?_⟩
  unfold commitE
  rw [if_pos hgo, h.entT.1]; exact ha
theorem HeldE.read (hI : Inv l el hl ol) (h : HeldE el ti en ws) {c : Stamp} {l' : List (Key × CV)} (hg : c.good) (hc : ¬ c.cmp en.stamp < 0) (hA : AppS c l ws l') {w : Write} (hw : w ∈ ws) :
    readP l' (adel el ti) (dropL hl ws) w.key c c.t = (w.val, !w.gone, 0) := by
  have hge := goodE_parts (h.good hI)
  have hgw := goodWs_mem hge.2.2.2.1 hw
  have hnd := goodWs_nodup hge.2.2.2.1
  have hb : (blocksT (adel el ti) (dropL hl ws) w.key c).2 = false := by
    unfold blocksT
    rw [dropL_look hI.hn, if_pos (List.mem_map.2 ⟨w, hw, rfl⟩)]
    simp
  rw [read_is hgw.1 hg hb (Int.lt_irrefl _)]
  have hlow := h.below hI hc w hw
  have hroom : (getS l w.key).length < 50 := by
    obtain ⟨sv, h4⟩ := h
    exact (hI.ent ti _ h4).room w hw
  have hpe : putE (getS l w.key) ⟨c, w.val, w.gone⟩ = 0 := by
    unfold putE
    rw [if_neg, if_neg, if_neg (by omega)]
    · rw [hasS_no (fun v hv e => Stamp.lt_irrefl c (by have := hlow v hv; rwa [e] at this))]; decide
    · rintro (h1 | h1 | h1)
      · exact h1 hg
      · have := hgw.2.1; simp only at h1; omega
      · exact hgw.2.2 h1
  have hs : getS l' w.key = putV (getS l w.key) ⟨c, w.val, w.gone⟩ := by
    rw [hA.getS_of hnd hw]; unfold afterPut; rw [if_pos hpe]
  have hat : atV (getS l' w.key) c = some ⟨c, w.val, w.gone⟩ := by
    rw [hs]; exact at_last (x := ⟨c, w.val, w.gone⟩) hlow
  unfold getV
  rw [hat]
  simp only
  cases hgn : w.gone with
  | false => simp
  | true =>
    have hv : w.val = ⟨#[]⟩ := by
      rcases Decidable.em (w.val = ⟨#[]⟩) with h1 | h1
      · exact h1
      · exact absurd ⟨hgn, h1⟩ hgw.2.2
    simp [hv]
end
end Go.X

namespace Go.X
open Go.Proofs
end Go.X

namespace Go.X
open Go.Proofs
theorem ds_206 : isDesc Tryz.prog 206 = 4 := by kernel_rfl
theorem fo_203_1 : fieldOff Tryz.prog 203 1 = some 1 := by kernel_rfl
theorem fo_203_3 : fieldOff Tryz.prog 203 3 = some 3 := by kernel_rfl
theorem kd_201 : kindOf Tryz.prog 201 = some (false, 1) := by kernel_rfl
theorem mp_201 : Tryz.prog.underlying 201 = some (.map 2 206) := by kernel_rfl
theorem zo_206 : zeroOf Tryz.prog 206 = some (.pointer none) := by kernel_rfl
/-! ## owned things under keys -/
def OwnL {K V : Type} (O : V → List Pt → Prop) : List (K × V) → List Pt → Prop
  | [], Cs => Cs = []
  | q :: l, Cs => ∃ G C1, Cs = G ++ C1 ∧ O q.2 G ∧ OwnL O l C1
theorem OwnL.take {K V : Type} [DecidableEq K] {O : V → List Pt → Prop} {k : K} {q : V} : ∀ {l : List (K × V)} {Cs : List Pt}, OwnL O l Cs → alook l k = some q → ∃ G C1, Cs.Perm (G ++ C1) ∧ O q G ∧
    (∀ q' G', O q' G' → ∃ Cs', OwnL O (aput l k q') Cs' ∧ (G' ++ C1).Perm Cs') ∧ ∃ Cs', OwnL O (adel l k) Cs' ∧ C1.Perm Cs'
  | [], _, _, h => by simp [alook] at h
  | (y, u) :: l, Cs, hC, h => by
    obtain ⟨G, C1, rfl, hO, hC1⟩ := hC
    unfold alook at h
    split at h
    · rename_i he
      obtain rfl := Option.some.inj h
      refine ⟨G, C1, .refl _, hO, fun q' G' hG' => ⟨G' ++ C1, ?_, .refl _⟩, C1, ?_, .refl _⟩
      · simp only [aput, he, if_true]
        exact ⟨G', C1, rfl, hG', hC1⟩
      · simp only [adel, he, if_true]; exact hC1
    · rename_i he
      obtain ⟨G2, C2, hp, hO2, hb, Cd, hd1, hd2⟩ := OwnL.take hC1 h
      refine ⟨G2, G ++ C2, ?_, hO2, fun q' G' hG' => ?_, G ++ Cd, ?_, hd2.append_left G⟩
      · exact (hp.append_left G).trans (List.perm_append_comm_assoc _ _ _)
      · obtain ⟨Cs', h1, h2⟩ := hb q' G' hG'
        refine ⟨G ++ Cs', ?_, (List.perm_append_comm_assoc _ _ _).trans (h2.append_left G)⟩
        simp only [aput, he, if_false]
        exact ⟨G, Cs', rfl, hO, h1⟩
      · simp only [adel, he, if_false]
        exact ⟨G, Cd, rfl, hO, hd1⟩
theorem OwnL.new {K V : Type} [DecidableEq K] {O : V → List Pt → Prop} {k : K} {q : V} {G : List Pt} (hG : O q G) : ∀ {l : List (K × V)} {Cs : List Pt}, OwnL O l Cs → alook l k = none →
    ∃ Cs', OwnL O (aput l k q) Cs' ∧ (G ++ Cs).Perm Cs'
  | [], Cs, hC, _ => by
    obtain rfl : Cs = [] := hC
    exact ⟨G ++ [], ⟨G, [], rfl, hG, rfl⟩, .refl _⟩
  | (y, u) :: l, Cs, hC, h => by
    obtain ⟨G1, C1, rfl, hO, hC1⟩ := hC
    unfold alook at h
    split at h
    · cases h
    · rename_i he
      obtain ⟨Cs', h1, h2⟩ := OwnL.new hG hC1 h
      refine ⟨G1 ++ Cs', ?_, (List.perm_append_comm_assoc _ _ _).trans (h2.append_left G1)⟩
      simp only [aput, he, if_false]
      exact ⟨G1, Cs', rfl, hO, h1⟩
/-! ## one transaction of solo, all of them -/
abbrev TX := Nat × (Stamp × List (Key × Write))
def txV (x : TX) : Value := .pointer (some ⟨x.1, 0, none⟩)
def wV (x : Write) : Value := .agg (Write_enc x)
def wz : Write := .zero
def OneT (x : TX) (G : List Pt) : Prop := ∃ mb es ck, G = [(x.1, .cells #[.int .i64 x.2.1.t, .int .u8 x.2.1.n, .map (some mb)] 208 (0, 0)), (mb, .map es ck)] ∧ MapIs keyV wV es ck x.2.2 ∧ x.2.2.length ≤ 16
/-- solo that is ours -/
structure SoOwn (p : Nat) (l : List (Key × CV)) (xl : List (I64 × TX)) (begun last : Int) (Ls : List Pt) : Prop where
  ex : ∃ sb lm es ck L1 L2, Ls = (p, .cells #[.pointer (some ⟨sb, 0, none⟩), .map (some lm), .int .i64 begun, .int .i64 last] 203 (0, 0)) :: (lm, .map es ck) :: (L1 ++ L2) ∧ StOwn sb l L1 ∧ MapIs i64V txV es ck xl ∧ OwnL OneT xl L2
  size : xl.length ≤ 100
  num : 0 ≤ begun ∧ begun ≤ 1000000 ∧ 0 ≤ last ∧ last ≤ 1000000
  ids : ∀ q ∈ xl, q.1.1 ≤ begun

set_option maxRecDepth 100000 in
set_option maxHeartbeats 2000000 in
theorem C_solo_New {c : Cx} {L : List Pt}  : Fn Tryz.prog 51 #[] c L (fun v L' => ∃ p lm sb mb, c.w0.heap.size ≤ p ∧ c.w0.heap.size ≤ lm ∧ c.w0.heap.size ≤ sb ∧ c.w0.heap.size ≤ mb ∧ v = .pointer (some ⟨p, 0, none⟩) ∧ L' = (p, .cells #[.pointer (some ⟨sb, 0, none⟩), .map (some lm), .int .i64 0, .int .i64 0] 203 (0, 0)) :: (lm, .map #[] 0) :: (sb, .cells #[.map (some mb)] 245 (0, 0)) :: (mb, .map #[] 0) :: L) := by
  refine Fn.enter Tryz.func51 rfl 5 rfl rfl (fun R hR => ?_)
  refine Cd.seq (fun K1 hK1 => ?_)
  refine Cd.region [0] rfl ?_
  refine Seq.rd0 at0 rfl rfl (O.assign (v := .pointer _) rfl) ?_
  refine Seq.nil ?_
  refine hK1 ?_
  refine Cd.seq (fun K2 hK2 => ?_)
  refine Cd.region [0, 1, 2, 3, 4] rfl ?_
  refine Seq.op at0 rfl (Op.callF rfl hb_87 C_store_New rfl ?_)
  rintro _ _ ⟨sb3, mb4, hsb3, hmb4, rfl, rfl⟩
  refine Seq.op at1 rfl (Op.new rfl (O.makeMap) ?_)
  intro b5 hb5
  refine Seq.rd0 at2 rfl rfl (O.build rfl (cs := #[.pointer (some ⟨sb3, 0, none⟩), .map (some b5), .int .i64 0, .int .i64 0]) (by kernel_rfl)) ?_
  refine Seq.op at3 rfl (Op.new rfl (O.box (v := .agg _) rfl (cs := #[.pointer (some ⟨sb3, 0, none⟩), .map (some b5), .int .i64 0, .int .i64 0]) rfl) ?_)
  intro b6 hb6
  refine Seq.rd0 at4 rfl rfl (O.assign (v := .pointer _) rfl) ?_
  refine Seq.nil ?_
  refine hK2 ?_
  refine Cd.ret ?_
  exact hR _ _ (Res.one (v := .pointer _) rfl rfl) ⟨b6, b5, sb3, mb4, hb6, hb5, hsb3, hmb4, rfl, rfl⟩ (.refl _)

theorem C_solo_New2 {c : Cx} {L : List Pt} : Fn Tryz.prog 51 #[] c L (fun v L' => ∃ p Ls, v = .pointer (some ⟨p, 0, none⟩) ∧ SoOwn p [] [] 0 0 Ls ∧ L' = Ls ++ L) := by
  refine Fn.mono C_solo_New ?_
  rintro v L' ⟨p, lm, sb, mb, _, _, _, _, hv, rfl⟩
  have hS : StOwn sb [] [(sb, .cells #[.map (some mb)] 245 (0, 0)), (mb, .map #[] 0)] := ⟨⟨mb, #[], 0, [], rfl, MapIs.nil, rfl⟩, by decide⟩
  exact ⟨p, _, hv, ⟨⟨sb, lm, #[], 0, _, [], rfl, hS, MapIs.nil, rfl⟩, by decide, by decide, by simp⟩, rfl⟩

set_option maxRecDepth 100000 in
set_option maxHeartbeats 2000000 in
theorem C_solo_Last {c : Cx} {L : List Pt} {p sb lm : Nat} {bg la : Int} (hp : Rd c L p (.cells #[.pointer (some ⟨sb, 0, none⟩), .map (some lm), .int .i64 bg, .int .i64 la] 203 (0, 0))) : Fn Tryz.prog 63 #[.pointer (some ⟨p, 0, none⟩)] c L (fun v L' => v = .int .i64 la ∧ L' = L) := by
  refine Fn.enter Tryz.func63 rfl 7 rfl rfl (fun R hR => ?_)
  refine Cd.seq (fun K1 hK1 => ?_)
  refine Cd.region [0] rfl ?_
  refine Seq.rd0 at0 rfl rfl (O.assign (v := .int .i64 _) rfl) ?_
  refine Seq.nil ?_
  refine hK1 ?_
  refine Cd.seq (fun K2 hK2 => ?_)
  refine Cd.region [0, 1, 2, 3, 4] rfl ?_
  refine Seq.rd0 at0 rfl rfl (O.move (v := .pointer _) rfl) ?_
  refine Seq.rd0 at1 rfl rfl (O.nilP rfl) ?_
  refine Seq.rd0 at2 rfl rfl (O.field fo_203_3 rfl) ?_
  refine Seq.rd1 at3 rfl rfl (O.load kd_2 rfl r4_3) hp ?_
  refine Seq.rd0 at4 rfl rfl (O.assign (v := .int .i64 _) rfl) ?_
  refine Seq.nil ?_
  refine hK2 ?_
  refine Cd.ret ?_
  exact hR _ _ (Res.one (v := .int .i64 _) rfl rfl) ⟨rfl, rfl⟩ (.refl _)

end Go.X

namespace Go.X
open Go.Proofs
theorem ds_165 : isDesc Tryz.prog 165 = 6 := by kernel_rfl
theorem ds_201 : isDesc Tryz.prog 201 = 6 := by kernel_rfl
theorem fo_203_2 : fieldOff Tryz.prog 203 2 = some 2 := by kernel_rfl
theorem fo_208_1 : fieldOff Tryz.prog 208 1 = some 2 := by kernel_rfl
theorem kd_165 : kindOf Tryz.prog 165 = some (false, 1) := by kernel_rfl
theorem mp_165 : Tryz.prog.underlying 165 = some (.map 45 47) := by kernel_rfl
/-! ## Begin, Put -/
def putX (ws : List (Key × Write)) (w : Write) : Int := if goodWs [w] = false then 1 else if alook ws w.key = none ∧ 16 ≤ ws.length then 6 else 0
def afterX (ws : List (Key × Write)) (w : Write) : List (Key × Write) := if putX ws w = 0 then aput ws w.key w else ws
theorem oneW {c : Cx} {L : List Pt} {b : Nat} {x : Write} {el : Nat} {fz : Nat × Nat} (h : Rd c L b (.cells (rows Write_enc [x]) el fz)) : SlAt c L Write_enc (some ⟨b, 0, none⟩) 1 [x] :=
  ⟨rfl, by decide, fun _ => ⟨#[], #[], el, fz, rfl, by show Rd c L b (.cells (#[] ++ (rows Write_enc [x] ++ #[])) el fz); simpa using h⟩⟩

set_option maxRecDepth 100000 in
set_option maxHeartbeats 2000000 in
theorem C_solo_Begin_own {c : Cx} {L : List Pt} {p sb lm ck : Nat} {es : Array MapEntry} {L1 L2 : List Pt} {l : List (Key × CV)} {xl : List (I64 × TX)} {bg la : Int} (hSo : StOwn sb l L1) (hMx : MapIs i64V txV es ck xl) {ti : I64} (hti : ti.1 = bg + 1) (hlen : xl.length < 100) (hbg : 0 ≤ bg ∧ bg < 1000000) : Fn Tryz.prog 53 #[.pointer (some ⟨p, 0, none⟩)] c ((p, .cells #[.pointer (some ⟨sb, 0, none⟩), .map (some lm), .int .i64 bg, .int .i64 la] 203 (0, 0)) :: (lm, .map es ck) :: (L1 ++ (L2 ++ L))) (fun v L' => v = .tuple #[.int .i64 (bg + 1), .int .i64 0] ∧ ∃ xb mb es3 ck3, MapIs i64V txV es3 ck3 (aput xl ti (xb, (⟨la, 0⟩, []))) ∧ L' = (xb, .cells #[.int .i64 la, .int .u8 0, .map (some mb)] 208 (0, 0)) :: (mb, .map #[] 0) :: (p, .cells #[.pointer (some ⟨sb, 0, none⟩), .map (some lm), .int .i64 (bg + 1), .int .i64 la] 203 (0, 0)) :: (lm, .map es3 ck3) :: (L1 ++ (L2 ++ L))) := by
  have hms := hMx.size
  refine Fn.enter Tryz.func53 rfl 37 rfl rfl (fun R hR => ?_)
  refine Cd.seq (fun K1 hK1 => ?_)
  refine Cd.region [0, 1] rfl ?_
  refine Seq.rd0 at0 rfl rfl (O.assign (v := .int .i64 _) rfl) ?_
  refine Seq.rd0 at1 rfl rfl (O.assign (v := .int .i64 _) rfl) ?_
  refine Seq.nil ?_
  refine hK1 ?_
  refine Cd.seq (fun K2 hK2 => ?_)
  refine Cd.seq (fun K3 hK3 => ?_)
  refine Cd.region [0, 1, 2, 3, 4, 5] rfl ?_
  refine Seq.rd0 at0 rfl rfl (O.move (v := .pointer _) rfl) ?_
  refine Seq.rd0 at1 rfl rfl (O.nilP rfl) ?_
  refine Seq.rd0 at2 rfl rfl (O.field fo_203_1 rfl) ?_
  refine Seq.rd1 at3 rfl rfl (O.load kd_201 rfl r4_1) Rd.head ?_
  refine Seq.rd1 at4 rfl rfl (O.lenM ds_201 rfl) Rd.head.cons ?_
  refine Seq.rd0 at5 rfl rfl (O.geq rfl rfl) ?_
  refine Seq.nil ?_
  refine hK3 ?_
  refine Cd.if ((100 : Int) ≤ (es.size : Int)) rfl (fun t4 => ?_) (fun t4 => ?_)
  · skip
    omega
  · skip
    refine Cd.skip ?_
    refine hK2 ?_
    refine Cd.seq (fun K5 hK5 => ?_)
    refine Cd.region [0, 1, 2, 3, 4, 5, 6, 7] rfl ?_
    refine Seq.rd0 at0 rfl rfl (O.move (v := .pointer _) rfl) ?_
    refine Seq.rd0 at1 rfl rfl (O.nilP rfl) ?_
    refine Seq.rd0 at2 rfl rfl (O.field fo_203_2 rfl) ?_
    refine Seq.rd1 at3 rfl rfl (O.load kd_2 rfl r4_2) Rd.head ?_
    refine Seq.rd0 at4 rfl rfl (O.add rfl rfl (by omega) (by omega)) ?_
    refine Seq.rd0 at5 rfl rfl (O.nilP rfl) ?_
    refine Seq.rd0 at6 rfl rfl (O.field fo_203_2 rfl) ?_
    refine Seq.op at7 rfl (Op.set0 rfl (O.store1 kd_2 rfl (v := .int .i64 _) rfl (Nat.le_of_ble_eq_true rfl) rfl (cs' := #[.pointer (some ⟨sb, 0, none⟩), .map (some lm), .int .i64 (bg + 1), .int .i64 la]) rfl) ?_)
    refine Seq.nil ?_
    refine hK5 ?_
    refine Cd.seq (fun K6 hK6 => ?_)
    refine Cd.draw 17 rfl po ?_
    refine Any.rd0 0 at0 rfl rfl (O.move (v := .pointer _) rfl) (by kernel_rfl) (by kernel_rfl) (by kernel_rfl) ?_
    refine Any.rd0 1 at1 rfl rfl (O.nilP rfl) (by kernel_rfl) (by kernel_rfl) (by kernel_rfl) ?_
    refine Any.rd0 2 at2 rfl rfl (O.field fo_203_1 rfl) (by kernel_rfl) (by kernel_rfl) (by kernel_rfl) ?_
    refine Any.rd1 3 at3 rfl rfl (O.load kd_201 rfl r4_1) Rd.head (by kernel_rfl) (by kernel_rfl) (by kernel_rfl) ?_
    refine Any.rd0 4 at4 rfl rfl (O.move (v := .pointer _) rfl) (by kernel_rfl) (by kernel_rfl) (by kernel_rfl) ?_
    refine Any.rd0 5 at5 rfl rfl (O.nilP rfl) (by kernel_rfl) (by kernel_rfl) (by kernel_rfl) ?_
    refine Any.rd0 6 at6 rfl rfl (O.field fo_203_2 rfl) (by kernel_rfl) (by kernel_rfl) (by kernel_rfl) ?_
    refine Any.rd1 7 at7 rfl rfl (O.load kd_2 rfl r4_2) Rd.head (by kernel_rfl) (by kernel_rfl) (by kernel_rfl) ?_
    refine Any.rd0 8 at8 rfl rfl (O.move (v := .pointer _) rfl) (by kernel_rfl) (by kernel_rfl) (by kernel_rfl) ?_
    refine Any.rd0 9 at9 rfl rfl (O.nilP rfl) (by kernel_rfl) (by kernel_rfl) (by kernel_rfl) ?_
    refine Any.rd0 10 at10 rfl rfl (O.field fo_203_3 rfl) (by kernel_rfl) (by kernel_rfl) (by kernel_rfl) ?_
    refine Any.rd1 11 at11 rfl rfl (O.load kd_2 rfl r4_3) Rd.head (by kernel_rfl) (by kernel_rfl) (by kernel_rfl) ?_
    refine Any.rd0 12 at12 rfl rfl (O.build rfl (cs := (Stamp_enc (⟨la, 0⟩ : Stamp))) (by kernel_rfl)) (by kernel_rfl) (by kernel_rfl) (by kernel_rfl) ?_
    refine Any.one 13 at13 rfl (by kernel_rfl) ⟨⟨⟨trivial, Rd.head⟩, Rd.head⟩, Rd.head⟩ ?_
    refine Op.new rfl (O.makeMap) ?_
    intro b7 hb7
    refine Any.toK ?_
    refine Any.rd0 14 at14 rfl rfl (O.build rfl (cs := #[.int .i64 ((⟨la, 0⟩ : Stamp).t), .int .u8 ((⟨la, 0⟩ : Stamp).n), .map (some b7)]) (by kernel_rfl)) (by kernel_rfl) (by kernel_rfl) (by kernel_rfl) ?_
    refine Any.one 15 at15 rfl (by kernel_rfl) ⟨⟨⟨trivial, Rd.head.cons⟩, Rd.head.cons⟩, Rd.head.cons⟩ ?_
    refine Op.new rfl (O.box (v := .agg _) rfl (cs := #[.int .i64 ((⟨la, 0⟩ : Stamp).t), .int .u8 ((⟨la, 0⟩ : Stamp).n), .map (some b7)]) rfl) ?_
    intro b8 hb8
    refine Any.toK ?_
    refine Any.one 16 at16 rfl (by kernel_rfl) ⟨⟨⟨trivial, Rd.head.cons.cons⟩, Rd.head.cons.cons⟩, Rd.head.cons.cons⟩ ?_
    refine Op.gen rfl (O.mapSet (encV := txV) (u := (b8, (⟨la, 0⟩, []))) (a := ti) mp_201 kk_i64 hMx rfl (by exact (show _ = i64V ti by unfold i64V; rw [hti]; rfl)) rfl (A := [(b8, _), (b7, _), (p, _)]) rfl) ?_
    rintro _ _ ⟨rfl, es3, ck3, hMes3, rfl⟩
    refine Any.toK ?_
    refine Any.done (by kernel_rfl) ⟨⟨⟨trivial, Rd.head.cons.cons⟩, Rd.head.cons.cons⟩, Rd.head.cons.cons⟩ ?_
    refine hK6 ?_
    refine Cd.seq (fun K9 hK9 => ?_)
    refine Cd.region [0, 1, 2, 3, 4, 5] rfl ?_
    refine Seq.rd0 at0 rfl rfl (O.move (v := .pointer _) rfl) ?_
    refine Seq.rd0 at1 rfl rfl (O.nilP rfl) ?_
    refine Seq.rd0 at2 rfl rfl (O.field fo_203_2 rfl) ?_
    refine Seq.rd1 at3 rfl rfl (O.load kd_2 rfl r4_2) Rd.head.cons.cons ?_
    refine Seq.rd0 at4 rfl rfl (O.assign (v := .int .i64 _) rfl) ?_
    refine Seq.rd0 at5 rfl rfl (O.assign (v := .int .i64 _) rfl) ?_
    refine Seq.nil ?_
    refine hK9 ?_
    refine Cd.ret ?_
    exact hR _ _ (Res.two (v := .int .i64 _) (v' := .int .i64 _) rfl rfl rfl) ⟨rfl, b8, b7, es3, ck3, hMes3, rfl⟩ (.refl _)

set_option maxRecDepth 100000 in
set_option maxHeartbeats 2000000 in
theorem C_solo_Put_none {c : Cx} {L : List Pt} {p sb lm ck : Nat} {es : Array MapEntry} {L1 L2 : List Pt} {l : List (Key × CV)} {xl : List (I64 × TX)} {bg la : Int} (hSo : StOwn sb l L1) (hMx : MapIs i64V txV es ck xl) {ti : I64} {x : Write} (hl : alook xl ti = none) : Fn Tryz.prog 54 #[.pointer (some ⟨p, 0, none⟩), .int .i64 ti.1, .agg (Write_enc x)] c ((p, .cells #[.pointer (some ⟨sb, 0, none⟩), .map (some lm), .int .i64 bg, .int .i64 la] 203 (0, 0)) :: (lm, .map es ck) :: (L1 ++ (L2 ++ L))) (fun v L' => v = .int .i64 4 ∧ L' = ((p, .cells #[.pointer (some ⟨sb, 0, none⟩), .map (some lm), .int .i64 bg, .int .i64 la] 203 (0, 0)) :: (lm, .map es ck) :: (L1 ++ (L2 ++ L)))) := by
  refine Fn.enter Tryz.func54 rfl 51 rfl rfl (fun R hR => ?_)
  refine Cd.seq (fun K1 hK1 => ?_)
  refine Cd.region [0, 1] rfl ?_
  refine Seq.op at0 rfl (Op.new rfl (O.box (v := .agg _) rfl (cs := (Write_enc x)) rfl) ?_)
  intro b2 hb2
  refine Seq.rd0 at1 rfl rfl (O.assign (v := .int .i64 _) rfl) ?_
  refine Seq.nil ?_
  refine hK1 ?_
  refine Cd.seq (fun K3 hK3 => ?_)
  refine Cd.region [0, 1, 2, 3, 4, 5, 6] rfl ?_
  refine Seq.rd0 at0 rfl rfl (O.move (v := .pointer _) rfl) ?_
  refine Seq.rd0 at1 rfl rfl (O.nilP rfl) ?_
  refine Seq.rd0 at2 rfl rfl (O.field fo_203_1 rfl) ?_
  refine Seq.rd1 at3 rfl rfl (O.load kd_201 rfl r4_1) Rd.head.cons ?_
  refine Seq.rd0 at4 rfl rfl (O.move (v := .int .i64 _) rfl) ?_
  refine Seq.rd1 at5 rfl rfl (O.lookN (ok := false) (encV := txV) (a := ti) mp_201 kk_i64 hMx zo_206 rfl (by exact rfl) hl) Rd.head.cons.cons ?_
  refine Seq.rd0 at6 rfl rfl (O.assign (v := .pointer _) rfl) ?_
  refine Seq.nil ?_
  refine hK3 ?_
  refine Cd.seq (fun K4 hK4 => ?_)
  refine Cd.block ?_
  refine Cd.seq (fun K5 hK5 => ?_)
  refine Cd.region [0, 1, 2] rfl ?_
  refine Seq.rd0 at0 rfl rfl (O.move (v := .pointer _) rfl) ?_
  refine Seq.rd0 at1 rfl rfl (O.eqNil ds_206 rfl rfl) ?_
  refine Seq.rd0 at2 rfl rfl (O.assign (v := .bool _) rfl) ?_
  refine Seq.nil ?_
  refine hK5 ?_
  refine Cd.condT rfl ?_
  refine Cd.seq (fun K6 hK6 => ?_)
  refine Cd.region [0] rfl ?_
  refine Seq.rd0 at0 rfl rfl (O.assign (v := .int .i64 _) rfl) ?_
  refine Seq.nil ?_
  refine hK6 ?_
  refine Cd.ret ?_
  exact hR _ _ (Res.one (v := .int .i64 _) rfl rfl) ⟨rfl, rfl⟩ (.cons _ (.refl _))

set_option maxRecDepth 100000 in
set_option maxHeartbeats 2000000 in
theorem C_solo_Put_some {c : Cx} {L : List Pt} {p sb lm ck : Nat} {es : Array MapEntry} {L1 C1 : List Pt} {l : List (Key × CV)} {xl : List (I64 × TX)} {bg la : Int} (hSo : StOwn sb l L1) (hMx : MapIs i64V txV es ck xl) {ti : I64} {q : TX} {mb ck9 : Nat} {es9 : Array MapEntry} {ws : List (Key × Write)} (hl : alook xl ti = some q) (hMw : MapIs keyV wV es9 ck9 ws) (h16 : ws.length ≤ 16) {x : Write} : Fn Tryz.prog 54 #[.pointer (some ⟨p, 0, none⟩), .int .i64 ti.1, .agg (Write_enc x)] c ((p, .cells #[.pointer (some ⟨sb, 0, none⟩), .map (some lm), .int .i64 bg, .int .i64 la] 203 (0, 0)) :: (lm, .map es ck) :: (q.1, .cells #[.int .i64 q.2.1.t, .int .u8 q.2.1.n, .map (some mb)] 208 (0, 0)) :: (mb, .map es9 ck9) :: (L1 ++ (C1 ++ L))) (fun v L' => v = .int .i64 (putX ws x) ∧ ∃ es3 ck3, MapIs keyV wV es3 ck3 (afterX ws x) ∧ L' = ((p, .cells #[.pointer (some ⟨sb, 0, none⟩), .map (some lm), .int .i64 bg, .int .i64 la] 203 (0, 0)) :: (lm, .map es ck) :: (q.1, .cells #[.int .i64 q.2.1.t, .int .u8 q.2.1.n, .map (some mb)] 208 (0, 0)) :: (mb, .map es3 ck3) :: (L1 ++ (C1 ++ L)))) := by
  have hms := hMw.size
  refine Fn.enter Tryz.func54 rfl 51 rfl rfl (fun R hR => ?_)
  refine Cd.seq (fun K1 hK1 => ?_)
  refine Cd.region [0, 1] rfl ?_
  refine Seq.op at0 rfl (Op.new rfl (O.box (v := .agg _) rfl (cs := (Write_enc x)) rfl) ?_)
  intro b2 hb2
  refine Seq.rd0 at1 rfl rfl (O.assign (v := .int .i64 _) rfl) ?_
  refine Seq.nil ?_
  refine hK1 ?_
  refine Cd.seq (fun K3 hK3 => ?_)
  refine Cd.region [0, 1, 2, 3, 4, 5, 6] rfl ?_
  refine Seq.rd0 at0 rfl rfl (O.move (v := .pointer _) rfl) ?_
  refine Seq.rd0 at1 rfl rfl (O.nilP rfl) ?_
  refine Seq.rd0 at2 rfl rfl (O.field fo_203_1 rfl) ?_
  refine Seq.rd1 at3 rfl rfl (O.load kd_201 rfl r4_1) Rd.head.cons ?_
  refine Seq.rd0 at4 rfl rfl (O.move (v := .int .i64 _) rfl) ?_
  refine Seq.rd1 at5 rfl rfl (O.lookS (ok := false) (encV := txV) (a := ti) mp_201 kk_i64 hMx rfl (by exact rfl) hl) Rd.head.cons.cons ?_
  refine Seq.rd0 at6 rfl rfl (O.assign (v := .pointer _) rfl) ?_
  refine Seq.nil ?_
  refine hK3 ?_
  refine Cd.seq (fun K4 hK4 => ?_)
  refine Cd.block ?_
  refine Cd.seq (fun K5 hK5 => ?_)
  refine Cd.region [0, 1, 2] rfl ?_
  refine Seq.rd0 at0 rfl rfl (O.move (v := .pointer _) rfl) ?_
  refine Seq.rd0 at1 rfl rfl (O.eqNil ds_206 rfl rfl) ?_
  refine Seq.rd0 at2 rfl rfl (O.assign (v := .bool _) rfl) ?_
  refine Seq.nil ?_
  refine hK5 ?_
  refine Cd.condF rfl ?_
  refine Cd.seq (fun K6 hK6 => ?_)
  refine Cd.region [0, 1, 2, 3, 4] rfl ?_
  refine Seq.rd1 at0 rfl rfl (O.loadA kd_47 rfl (Nat.le_of_ble_eq_true rfl) (Write_all _)) Rd.head ?_
  refine Seq.op at1 rfl (Op.new rfl (O.buildSlice (el := 47) rfl (cs := (rows Write_enc [x])) (by kernel_rfl)) ?_)
  intro b7 hb7
  refine Seq.op at2 rfl (Op.callF rfl hb_105 (C_store_Good (oneW (Rd.head))) rfl ?_)
  rintro _ _ ⟨rfl, rfl⟩
  refine Seq.rd0 at3 rfl rfl (O.not rfl) ?_
  refine Seq.rd0 at4 rfl rfl (O.assign (v := .bool _) rfl) ?_
  refine Seq.nil ?_
  refine hK6 ?_
  refine Cd.cond (!(goodWs [x])) rfl (fun t8 => ?_) (fun t8 => ?_)
  · skip
    refine Cd.seq (fun K9 hK9 => ?_)
    refine Cd.region [0] rfl ?_
    refine Seq.rd0 at0 rfl rfl (O.assign (v := .int .i64 _) rfl) ?_
    refine Seq.nil ?_
    refine hK9 ?_
    refine Cd.ret ?_
    have h9 : (!goodWs [x]) = true := by assumption
    have hpx : putX ws x = 1 := by unfold putX; exact if_pos (by simpa using h9)
    exact hR _ _ (Res.one (v := .int .i64 _) rfl rfl) ⟨by rw [hpx], es9, ck9, by unfold afterX; rw [if_neg (by rw [hpx]; decide)]; exact hMw, rfl⟩ (.cons _ (.cons _ (.refl _)))
  · skip
    refine Cd.skip ?_
    refine hK4 ?_
    refine Cd.seq (fun K10 hK10 => ?_)
    refine Cd.seq (fun K11 hK11 => ?_)
    refine Cd.draw 13 rfl po ?_
    refine Any.rd0 0 at0 rfl rfl (O.move (v := .pointer _) rfl) (by kernel_rfl) (by kernel_rfl) (by kernel_rfl) ?_
    refine Any.rd0 1 at1 rfl rfl (O.nilP rfl) (by kernel_rfl) (by kernel_rfl) (by kernel_rfl) ?_
    refine Any.rd0 2 at2 rfl rfl (O.field fo_208_1 rfl) (by kernel_rfl) (by kernel_rfl) (by kernel_rfl) ?_
    refine Any.rd1 3 at3 rfl rfl (O.load kd_165 rfl r3_2) Rd.head.cons.cons.cons.cons (by kernel_rfl) (by kernel_rfl) (by kernel_rfl) ?_
    refine Any.rd0 4 at4 rfl rfl (O.field fo_47_0 rfl) (by kernel_rfl) (by kernel_rfl) (by kernel_rfl) ?_
    refine Any.rd1 5 at5 rfl rfl (O.loadA kd_45 rfl (Nat.le_of_ble_eq_true rfl) (Write_key _)) Rd.head.cons (by kernel_rfl) (by kernel_rfl) (by kernel_rfl) ?_
    refine Any.rd1 6 at6 rfl rfl (O.lookD (ok := true) (encV := wV) (a := x.key) wz mp_165 kk_key hMw zo_47 rfl (by exact rfl)) Rd.head.cons.cons.cons.cons.cons (by kernel_rfl) (by kernel_rfl) (by kernel_rfl) ?_
    refine Any.rd0 7 at7 rfl rfl (O.move (v := .tuple _) rfl) (by kernel_rfl) (by kernel_rfl) (by kernel_rfl) ?_
    refine Any.rd0 8 at8 rfl rfl (O.ext rfl r2_0) (by kernel_rfl) (by kernel_rfl) (by kernel_rfl) ?_
    refine Any.rd0 9 at9 rfl rfl (O.ext rfl r2_1) (by kernel_rfl) (by kernel_rfl) (by kernel_rfl) ?_
    refine Any.one 10 at10 rfl (by kernel_rfl) ⟨⟨⟨trivial, Rd.head.cons.cons.cons.cons⟩, Rd.head.cons⟩, Rd.head.cons.cons.cons.cons.cons⟩ ?_
    refine Op.new rfl (O.alloc zo_47 (cs := (Write_enc Write.zero)) rfl) ?_
    intro b12 hb12
    refine Any.toK ?_
    refine Any.one 11 at11 rfl (by kernel_rfl) ⟨⟨⟨trivial, Rd.head.cons.cons.cons.cons.cons⟩, Rd.head.cons.cons⟩, Rd.head.cons.cons.cons.cons.cons.cons⟩ ?_
    refine Op.set0 rfl (O.store kd_47 rfl (v := .agg _) rfl (Write_size _) (Write_room (Write_size _)) (Write_one _) (Write_put _ (Write_size _))) ?_
    refine Any.toK ?_
    refine Any.rd0 12 at12 rfl rfl (O.assign (v := .bool _) rfl) (by kernel_rfl) (by kernel_rfl) (by kernel_rfl) ?_
    refine Any.done (by kernel_rfl) ⟨⟨⟨trivial, Rd.head.cons.cons.cons.cons.cons⟩, Rd.head.cons.cons⟩, Rd.head.cons.cons.cons.cons.cons.cons⟩ ?_
    refine hK11 ?_
    refine Cd.seq (fun K13 hK13 => ?_)
    refine Cd.region [0, 1, 2, 3, 4, 5, 6, 7, 8, 9] rfl ?_
    refine Seq.rd0 at0 rfl rfl (O.move (v := .bool _) rfl) ?_
    refine Seq.rd0 at1 rfl rfl (O.not rfl) ?_
    refine Seq.rd0 at2 rfl rfl (O.move (v := .bool _) rfl) ?_
    cases t14 : (alook ws x.key).isSome
    · skip
      refine Seq.rd0 at3 rfl rfl (O.move (v := .pointer _) rfl) ?_
      refine Seq.rd0 at4 rfl rfl (O.nilP rfl) ?_
      refine Seq.rd0 at5 rfl rfl (O.field fo_208_1 rfl) ?_
      refine Seq.rd1 at6 rfl rfl (O.load kd_165 rfl r3_2) Rd.head.cons.cons.cons.cons.cons ?_
      refine Seq.rd1 at7 rfl rfl (O.lenM ds_165 rfl) Rd.head.cons.cons.cons.cons.cons.cons ?_
      refine Seq.rd0 at8 rfl rfl (O.geq rfl rfl) ?_
      refine Seq.rd0 at9 rfl rfl (O.pickT (v := .bool _) rfl rfl) ?_
      refine Seq.nil ?_
      refine hK13 ?_
      refine Cd.if ((16 : Int) ≤ (es9.size : Int)) rfl (fun t15 => ?_) (fun t15 => ?_)
      · skip
        refine Cd.seq (fun K16 hK16 => ?_)
        refine Cd.region [0] rfl ?_
        refine Seq.rd0 at0 rfl rfl (O.assign (v := .int .i64 _) rfl) ?_
        refine Seq.nil ?_
        refine hK16 ?_
        refine Cd.ret ?_
        have h9 : (!goodWs [x]) = false := by assumption
        have hpx : putX ws x = 6 := by unfold putX; exact by rw [if_neg (by simpa using h9), if_pos ⟨by simp_all, by omega⟩]
        exact hR _ _ (Res.one (v := .int .i64 _) rfl rfl) ⟨by rw [hpx], es9, ck9, by unfold afterX; rw [if_neg (by rw [hpx]; decide)]; exact hMw, rfl⟩ (.cons _ (.cons _ (.cons _ (.refl _))))
      · skip
        refine Cd.skip ?_
        refine hK10 ?_
        refine Cd.seq (fun K17 hK17 => ?_)
        refine Cd.draw 8 rfl po ?_
        refine Any.rd0 0 at0 rfl rfl (O.move (v := .pointer _) rfl) (by kernel_rfl) (by kernel_rfl) (by kernel_rfl) ?_
        refine Any.rd0 1 at1 rfl rfl (O.nilP rfl) (by kernel_rfl) (by kernel_rfl) (by kernel_rfl) ?_
        refine Any.rd0 2 at2 rfl rfl (O.field fo_208_1 rfl) (by kernel_rfl) (by kernel_rfl) (by kernel_rfl) ?_
        refine Any.rd1 3 at3 rfl rfl (O.load kd_165 rfl r3_2) Rd.head.cons.cons.cons.cons.cons (by kernel_rfl) (by kernel_rfl) (by kernel_rfl) ?_
        refine Any.rd0 4 at4 rfl rfl (O.field fo_47_0 rfl) (by kernel_rfl) (by kernel_rfl) (by kernel_rfl) ?_
        refine Any.rd1 5 at5 rfl rfl (O.loadA kd_45 rfl (Nat.le_of_ble_eq_true rfl) (Write_key _)) Rd.head.cons.cons (by kernel_rfl) (by kernel_rfl) (by kernel_rfl) ?_
        refine Any.rd1 6 at6 rfl rfl (O.loadA kd_47 rfl (Nat.le_of_ble_eq_true rfl) (Write_all _)) Rd.head.cons.cons (by kernel_rfl) (by kernel_rfl) (by kernel_rfl) ?_
        refine Any.one 7 at7 rfl (by kernel_rfl) ⟨⟨⟨trivial, Rd.head.cons.cons.cons.cons.cons⟩, Rd.head.cons.cons⟩, Rd.head.cons.cons⟩ ?_
        refine Op.gen rfl (O.mapSet (encV := wV) (u := x) (a := x.key) mp_165 kk_key hMw rfl (by exact rfl) rfl (A := [(b12, _), (b7, _), (b2, _), (p, _), (lm, _), (q.1, _)]) rfl) ?_
        rintro _ _ ⟨rfl, es3, ck3, hMes3, rfl⟩
        refine Any.toK ?_
        refine Any.done (by kernel_rfl) ⟨⟨⟨trivial, Rd.head.cons.cons.cons.cons.cons⟩, Rd.head.cons.cons⟩, Rd.head.cons.cons⟩ ?_
        refine hK17 ?_
        refine Cd.seq (fun K18 hK18 => ?_)
        refine Cd.region [0] rfl ?_
        refine Seq.rd0 at0 rfl rfl (O.assign (v := .int .i64 _) rfl) ?_
        refine Seq.nil ?_
        refine hK18 ?_
        refine Cd.ret ?_
        have h9 : (!goodWs [x]) = false := by assumption
        have hpx : putX ws x = 0 := by unfold putX; exact by rw [if_neg (by simpa using h9), if_neg (by rintro ⟨h8, h7⟩; first | omega | simp_all)]
        exact hR _ _ (Res.one (v := .int .i64 _) rfl rfl) ⟨by rw [hpx], es3, ck3, by unfold afterX; rw [if_pos hpx]; exact hMes3, rfl⟩ (.cons _ (.cons _ (.cons _ (.refl _))))
    · skip
      refine Seq.pass at3 rfl rfl ?_
      refine Seq.pass at4 rfl rfl ?_
      refine Seq.pass at5 rfl rfl ?_
      refine Seq.pass at6 rfl rfl ?_
      refine Seq.pass at7 rfl rfl ?_
      refine Seq.pass at8 rfl rfl ?_
      refine Seq.rd0 at9 rfl rfl (O.pickF (v := .bool _) rfl rfl) ?_
      refine Seq.nil ?_
      refine hK13 ?_
      refine Cd.condF rfl ?_
      refine Cd.skip ?_
      refine hK10 ?_
      refine Cd.seq (fun K19 hK19 => ?_)
      refine Cd.draw 8 rfl po ?_
      refine Any.rd0 0 at0 rfl rfl (O.move (v := .pointer _) rfl) (by kernel_rfl) (by kernel_rfl) (by kernel_rfl) ?_
      refine Any.rd0 1 at1 rfl rfl (O.nilP rfl) (by kernel_rfl) (by kernel_rfl) (by kernel_rfl) ?_
      refine Any.rd0 2 at2 rfl rfl (O.field fo_208_1 rfl) (by kernel_rfl) (by kernel_rfl) (by kernel_rfl) ?_
      refine Any.rd1 3 at3 rfl rfl (O.load kd_165 rfl r3_2) Rd.head.cons.cons.cons.cons.cons (by kernel_rfl) (by kernel_rfl) (by kernel_rfl) ?_
      refine Any.rd0 4 at4 rfl rfl (O.field fo_47_0 rfl) (by kernel_rfl) (by kernel_rfl) (by kernel_rfl) ?_
      refine Any.rd1 5 at5 rfl rfl (O.loadA kd_45 rfl (Nat.le_of_ble_eq_true rfl) (Write_key _)) Rd.head.cons.cons (by kernel_rfl) (by kernel_rfl) (by kernel_rfl) ?_
      refine Any.rd1 6 at6 rfl rfl (O.loadA kd_47 rfl (Nat.le_of_ble_eq_true rfl) (Write_all _)) Rd.head.cons.cons (by kernel_rfl) (by kernel_rfl) (by kernel_rfl) ?_
      refine Any.one 7 at7 rfl (by kernel_rfl) ⟨⟨⟨trivial, Rd.head.cons.cons.cons.cons.cons⟩, Rd.head.cons.cons⟩, Rd.head.cons.cons⟩ ?_
      refine Op.gen rfl (O.mapSet (encV := wV) (u := x) (a := x.key) mp_165 kk_key hMw rfl (by exact rfl) rfl (A := [(b12, _), (b7, _), (b2, _), (p, _), (lm, _), (q.1, _)]) rfl) ?_
      rintro _ _ ⟨rfl, es3, ck3, hMes3, rfl⟩
      refine Any.toK ?_
      refine Any.done (by kernel_rfl) ⟨⟨⟨trivial, Rd.head.cons.cons.cons.cons.cons⟩, Rd.head.cons.cons⟩, Rd.head.cons.cons⟩ ?_
      refine hK19 ?_
      refine Cd.seq (fun K20 hK20 => ?_)
      refine Cd.region [0] rfl ?_
      refine Seq.rd0 at0 rfl rfl (O.assign (v := .int .i64 _) rfl) ?_
      refine Seq.nil ?_
      refine hK20 ?_
      refine Cd.ret ?_
      have h9 : (!goodWs [x]) = false := by assumption
      have hpx : putX ws x = 0 := by unfold putX; exact by rw [if_neg (by simpa using h9), if_neg (by rintro ⟨h8, h7⟩; first | omega | simp_all)]
      exact hR _ _ (Res.one (v := .int .i64 _) rfl rfl) ⟨by rw [hpx], es3, ck3, by unfold afterX; rw [if_pos hpx]; exact hMes3, rfl⟩ (.cons _ (.cons _ (.cons _ (.refl _))))

end Go.X
