/- Part 5 of the proofs over this program: what its functions compute. -/
import Derived.Test.YthifdialndcemaaGreatProg
import Derived.Deep.Slices
import Derived.Deep.Fields
import Derived.ChangeSame
import Derived.OpenShut
import Derived.Carry
import Derived.ProofKit
import Derived.LaidMore
import Derived.Test.YthifdialndcemaaGreatS4
set_option linter.unusedVariables false
set_option linter.unusedSimpArgs false

namespace Go.X
open Go.Proofs
theorem hb_224 : hasBody Tryz.prog 224 = true := by kernel_rfl
set_option maxRecDepth 100000 in
set_option maxHeartbeats 2000000 in
theorem C_Insert_nil {c : Cx} {L : List Pt} {bs : Nat} {x : Version} (hbs : Rd c L bs (.cells (rows Version_enc [x]) 242 (0, 0))) : Fn Tryz.prog 224 #[.slice none 0 0, .int .i64 0, .slice (some ⟨bs, 0, none⟩) 1 1] c L (fun v L' => ∃ av' cap' Ls', v = .slice av' 1 cap' ∧ OwnSl 242 4 (rows Version_enc [x]) 1 v Ls' ∧ L' = Ls' ++ L) := by
  refine Fn.enter Tryz.func224 rfl 95 rfl rfl (fun R hR => ?_)
  refine Cd.seq (fun K1 hK1 => ?_)
  refine Cd.region [0] rfl ?_
  refine Seq.rd0 at0 rfl rfl (O.assign (v := .slice _ _ _) rfl) ?_
  refine Seq.nil ?_
  refine hK1 ?_
  refine Cd.seq (fun K2 hK2 => ?_)
  refine Cd.region [0, 1, 2] rfl ?_
  refine Seq.rd0 at0 rfl rfl (O.move (v := .slice _ _ _) rfl) ?_
  refine Seq.rd0 at1 rfl rfl (O.move (v := .int .i64 _) rfl) ?_
  refine Seq.rd0 at2 rfl rfl (O.sliceNil sl_239 rfl rfl) ?_
  refine Seq.nil ?_
  refine hK2 ?_
  refine Cd.seq (fun K3 hK3 => ?_)
  refine Cd.region [0, 1, 2] rfl ?_
  refine Seq.rd0 at0 rfl rfl (O.move (v := .slice _ _ _) rfl) ?_
  refine Seq.rd0 at1 rfl rfl (O.lenS ds_239 rfl) ?_
  refine Seq.rd0 at2 rfl rfl (O.assign (v := .int .i64 _) rfl) ?_
  refine Seq.nil ?_
  refine hK3 ?_
  refine Cd.seq (fun K4 hK4 => ?_)
  refine Cd.seq (fun K5 hK5 => ?_)
  refine Cd.region [0, 1] rfl ?_
  refine Seq.rd0 at0 rfl rfl (O.move (v := .int .i64 _) rfl) ?_
  refine Seq.rd0 at1 rfl rfl (O.eqI rfl rfl) ?_
  refine Seq.nil ?_
  refine hK5 ?_
  refine Cd.if ((1 : Int) = 0) rfl (fun t6 => ?_) (fun t6 => ?_)
  · skip
    exact absurd t6 (by decide)
  · skip
    refine Cd.skip ?_
    refine hK4 ?_
    refine Cd.seq (fun K7 hK7 => ?_)
    refine Cd.region [0, 1, 2] rfl ?_
    refine Seq.rd0 at0 rfl rfl (O.move (v := .slice _ _ _) rfl) ?_
    refine Seq.rd0 at1 rfl rfl (O.lenS ds_239 rfl) ?_
    refine Seq.rd0 at2 rfl rfl (O.assign (v := .int .i64 _) rfl) ?_
    refine Seq.nil ?_
    refine hK7 ?_
    refine Cd.seq (fun K8 hK8 => ?_)
    refine Cd.seq (fun K9 hK9 => ?_)
    refine Cd.region [0, 1, 2] rfl ?_
    refine Seq.rd0 at0 rfl rfl (O.move (v := .int .i64 _) rfl) ?_
    refine Seq.rd0 at1 rfl rfl (O.move (v := .int .i64 _) rfl) ?_
    refine Seq.rd0 at2 rfl rfl (O.eqI rfl rfl) ?_
    refine Seq.nil ?_
    refine hK9 ?_
    refine Cd.if ((0 : Int) = 0) rfl (fun t10 => ?_) (fun t10 => ?_)
    · skip
      refine Cd.seq (fun K11 hK11 => ?_)
      refine Cd.region [0, 1, 2, 3] rfl ?_
      refine Seq.rd0 at0 rfl rfl (O.move (v := .slice _ _ _) rfl) ?_
      refine Seq.rd0 at1 rfl rfl (O.move (v := .slice _ _ _) rfl) ?_
      refine Seq.op at2 rfl (Op.gen rfl (O.appendOwnZ (k := 1) (new := rows Version_enc [x]) (m := 0) (old := #[]) (Ls := []) (R := L) ei_239 ds_239 (by decide) rfl (.inl ⟨rfl, rfl, rfl, rfl⟩) (.inr ⟨bs, 0, 1, _, _, _, rfl, hbs, Nat.le_of_ble_eq_true rfl, rows_all Version_size⟩) (rows_ones Version_one) (by omega)) ?_)
      rintro vr _ ⟨Lr, hr, rfl⟩
      refine Seq.rd0 at3 rfl rfl (O.assign (v := vr) rfl) ?_
      refine Seq.nil ?_
      refine hK11 ?_
      refine Cd.ret ?_
      obtain ⟨ar, cr, rfl⟩ := hr.form
      exact hR _ _ (Res.one (v := .slice _ _ _) rfl rfl) ⟨ar, cr, Lr, rfl, by simpa using hr, rfl⟩ (.refl _)
    · skip
      exact absurd rfl t10

theorem C_Insert {c : Cx} {R Ls : List Pt} {av : Option Addr} {cap bs i : Nat} {vs : List Version} {x : Version} (ho : OwnSl 242 4 (rows Version_enc vs) vs.length (.slice av vs.length cap) Ls) (hi : i ≤ vs.length) (hlt : vs.length ≤ 1000000000)
    (hbs : (bs, .cells (rows Version_enc [x]) 242 (0, 0)) ∈ R) : Fn Tryz.prog 224 #[.slice av vs.length cap, .int .i64 (i : Nat), .slice (some ⟨bs, 0, none⟩) 1 1] c (Ls ++ R)
      (fun v L' => ∃ av' cap' Ls', v = .slice av' (vs.length + 1) cap' ∧ OwnSl 242 4 (rows Version_enc (vs.take i ++ x :: vs.drop i)) (vs.length + 1) (.slice av' (vs.length + 1) cap') Ls' ∧ L' = Ls' ++ R) := by
  rcases ho with ⟨h0, _, hv, rfl⟩ | ⟨b, cap', sp, hv, h1, h2, h3, rfl⟩
  · obtain rfl : vs = [] := List.length_eq_zero_iff.1 h0
    obtain ⟨rfl, rfl⟩ : av = none ∧ cap = 0 := by simpa using hv
    obtain rfl : i = 0 := by simpa using hi
    exact Fn.mono (C_Insert_nil (L := R) (Rd.mem hbs)) fun v L' ⟨av', cap', Ls', h4, h5, h6⟩ => ⟨av', cap', Ls', h4, h4 ▸ h5, h6⟩
  · obtain ⟨rfl, rfl⟩ : av = some ⟨b, 0, none⟩ ∧ cap = cap' := by simpa using hv
    refine Fn.nd fun hnd => ?_
    have hne : bs ≠ b := by
      rintro rfl
      simp only [List.singleton_append, List.map_cons, List.nodup_cons] at hnd
      exact hnd.1 (List.mem_map.2 ⟨_, hbs, rfl⟩)
    exact Fn.mono (C_Insert_own (L := R) h1 h2 hi hlt hne (Rd.mem hbs)) fun v L' ⟨av', cap', Ls', h4, h5, h6⟩ => ⟨av', cap', Ls', h4, h4 ▸ h5, h6⟩

set_option maxRecDepth 100000 in
set_option maxHeartbeats 2000000 in
theorem C_Put_own {c : Cx} {L : List Pt} {cb cap : Nat} {av : Option Addr} {vs : List Version} {x : Version} {Ls : List Pt} (ho : OwnSl 242 4 (rows Version_enc vs) vs.length (.slice av vs.length cap) Ls) (hs : Sorted vs) (h50 : vs.length ≤ 50) (hC : ChAt c ((cb, .cells #[.slice av vs.length cap] 300 (0, 0)) :: (Ls ++ L)) cb vs) : Fn Tryz.prog 173 #[.pointer (some ⟨cb, 0, none⟩), .agg (Version_enc x)] c ((cb, .cells #[.slice av vs.length cap] 300 (0, 0)) :: (Ls ++ L)) (fun v L' => v = .int .i64 (putE vs x) ∧ ∃ G', One cb (afterPut vs x) G' ∧ L' = G' ++ L) := by
  refine Fn.enter Tryz.func173 rfl 53 rfl rfl (fun R hR => ?_)
  refine Cd.seq (fun K1 hK1 => ?_)
  refine Cd.region [0, 1] rfl ?_
  refine Seq.op at0 rfl (Op.new rfl (O.box (v := .agg _) rfl (cs := (Version_enc x)) rfl) ?_)
  intro b2 hb2
  refine Seq.rd0 at1 rfl rfl (O.assign (v := .int .i64 _) rfl) ?_
  refine Seq.nil ?_
  refine hK1 ?_
  refine Cd.seq (fun K3 hK3 => ?_)
  refine Cd.seq (fun K4 hK4 => ?_)
  refine Cd.region [0, 1, 2, 3, 4, 5, 6, 7, 8, 9, 10, 11, 12, 13, 14, 15, 16, 17, 18] rfl ?_
  refine Seq.rd0 at0 rfl rfl (O.field fo_242_0 rfl) ?_
  refine Seq.rd1 at1 rfl rfl (O.loadA kd_24 rfl (Nat.le_of_ble_eq_true rfl) (Version_stamp _)) Rd.head ?_
  refine Seq.op at2 rfl (Op.callF rfl hb_98 C_stamp_Good rfl ?_)
  rintro _ _ ⟨rfl, rfl⟩
  refine Seq.rd0 at3 rfl rfl (O.not rfl) ?_
  refine Seq.rd0 at4 rfl rfl (O.move (v := .bool _) rfl) ?_
  cases t5 : decide (x.stamp).good
  · skip
    refine Seq.pass at5 rfl rfl ?_
    refine Seq.pass at6 rfl rfl ?_
    refine Seq.pass at7 rfl rfl ?_
    refine Seq.pass at8 rfl rfl ?_
    refine Seq.rd0 at9 rfl rfl (O.pickT (v := .bool _) rfl rfl) ?_
    refine Seq.rd0 at10 rfl rfl (O.move (v := .bool _) rfl) ?_
    refine Seq.pass at11 rfl rfl ?_
    refine Seq.pass at12 rfl rfl ?_
    refine Seq.pass at13 rfl rfl ?_
    refine Seq.pass at14 rfl rfl ?_
    refine Seq.pass at15 rfl rfl ?_
    refine Seq.pass at16 rfl rfl ?_
    refine Seq.pass at17 rfl rfl ?_
    refine Seq.rd0 at18 rfl rfl (O.pickT (v := .bool _) rfl rfl) ?_
    refine Seq.nil ?_
    refine hK4 ?_
    refine Cd.condT rfl ?_
    refine Cd.seq (fun K6 hK6 => ?_)
    refine Cd.region [0] rfl ?_
    refine Seq.rd0 at0 rfl rfl (O.assign (v := .int .i64 _) rfl) ?_
    refine Seq.nil ?_
    refine hK6 ?_
    refine Cd.ret ?_
    have hbad : ¬ x.stamp.good ∨ 200 < (x.val.size : Int) ∨ (x.gone = true ∧ ¬ x.val = ⟨#[]⟩) := by first | (left; assumption) | (left; simp_all; done) | (right; left; assumption) | (right; right; exact ⟨by assumption, by assumption⟩)
    have hpe : putE vs x = 1 := by unfold putE; rw [if_pos hbad]
    have hone : One cb (afterPut vs x) ((cb, .cells #[.slice av vs.length cap] 300 (0, 0)) :: Ls) := by
      have h2 : afterPut vs x = vs := by unfold afterPut; rw [if_neg (by omega)]
      rw [h2]; exact ⟨av, cap, Ls, rfl, ho, hs, h50⟩
    exact hR _ _ (Res.one (v := .int .i64 _) rfl rfl) ⟨by rw [hpe], _, hone, rfl⟩ (.cons _ (.refl _))
  · skip
    refine Seq.rd0 at5 rfl rfl (O.field fo_242_1 rfl) ?_
    refine Seq.rd1 at6 rfl rfl (O.load kd_9 rfl (Version_val _)) Rd.head ?_
    refine Seq.rd0 at7 rfl rfl (O.lenT ds_9 rfl) ?_
    refine Seq.rd0 at8 rfl rfl (O.gtr rfl rfl) ?_
    refine Seq.rd0 at9 rfl rfl (O.pickF (v := .bool _) rfl rfl) ?_
    refine Seq.rd0 at10 rfl rfl (O.move (v := .bool _) rfl) ?_
    by_cases t7 : (200 : Int) < (x.val.size : Int)
    · rw [decide_eq_true t7]
      refine Seq.pass at11 rfl rfl ?_
      refine Seq.pass at12 rfl rfl ?_
      refine Seq.pass at13 rfl rfl ?_
      refine Seq.pass at14 rfl rfl ?_
      refine Seq.pass at15 rfl rfl ?_
      refine Seq.pass at16 rfl rfl ?_
      refine Seq.pass at17 rfl rfl ?_
      refine Seq.rd0 at18 rfl rfl (O.pickT (v := .bool _) rfl rfl) ?_
      refine Seq.nil ?_
      refine hK4 ?_
      refine Cd.condT rfl ?_
      refine Cd.seq (fun K8 hK8 => ?_)
      refine Cd.region [0] rfl ?_
      refine Seq.rd0 at0 rfl rfl (O.assign (v := .int .i64 _) rfl) ?_
      refine Seq.nil ?_
      refine hK8 ?_
      refine Cd.ret ?_
      have hbad : ¬ x.stamp.good ∨ 200 < (x.val.size : Int) ∨ (x.gone = true ∧ ¬ x.val = ⟨#[]⟩) := by first | (left; assumption) | (left; simp_all; done) | (right; left; assumption) | (right; right; exact ⟨by assumption, by assumption⟩)
      have hpe : putE vs x = 1 := by unfold putE; rw [if_pos hbad]
      have hone : One cb (afterPut vs x) ((cb, .cells #[.slice av vs.length cap] 300 (0, 0)) :: Ls) := by
        have h2 : afterPut vs x = vs := by unfold afterPut; rw [if_neg (by omega)]
        rw [h2]; exact ⟨av, cap, Ls, rfl, ho, hs, h50⟩
      exact hR _ _ (Res.one (v := .int .i64 _) rfl rfl) ⟨by rw [hpe], _, hone, rfl⟩ (.cons _ (.refl _))
    · rw [decide_eq_false t7]
      refine Seq.rd0 at11 rfl rfl (O.field fo_242_2 rfl) ?_
      refine Seq.rd1 at12 rfl rfl (O.load kd_4 rfl (Version_gone _)) Rd.head ?_
      refine Seq.rd0 at13 rfl rfl (O.move (v := .bool _) rfl) ?_
      cases t9 : x.gone
      · skip
        refine Seq.pass at14 rfl rfl ?_
        refine Seq.pass at15 rfl rfl ?_
        refine Seq.pass at16 rfl rfl ?_
        refine Seq.rd0 at17 rfl rfl (O.pickF (v := .bool _) rfl rfl) ?_
        refine Seq.rd0 at18 rfl rfl (O.pickF (v := .bool _) rfl rfl) ?_
        refine Seq.nil ?_
        refine hK4 ?_
        refine Cd.condF rfl ?_
        refine Cd.skip ?_
        refine hK3 ?_
        refine Cd.seq (fun K10 hK10 => ?_)
        refine Cd.region [0, 1, 2, 3, 4, 5, 6, 7, 8] rfl ?_
        refine Seq.rd0 at0 rfl rfl (O.move (v := .pointer _) rfl) ?_
        refine Seq.rd0 at1 rfl rfl (O.field fo_242_0 rfl) ?_
        refine Seq.rd1 at2 rfl rfl (O.loadA kd_24 rfl (Nat.le_of_ble_eq_true rfl) (Version_stamp _)) Rd.head ?_
        refine Seq.op at3 rfl (Op.callF rfl hb_223 (C_place hs (by omega) (hC.cons)) rfl ?_)
        rintro _ _ ⟨rfl, rfl⟩
        refine Seq.rd0 at4 rfl rfl (O.move (v := .tuple _) rfl) ?_
        refine Seq.rd0 at5 rfl rfl (O.ext rfl r2_0) ?_
        refine Seq.rd0 at6 rfl rfl (O.ext rfl r2_1) ?_
        refine Seq.rd0 at7 rfl rfl (O.assign (v := .int .i64 _) rfl) ?_
        refine Seq.rd0 at8 rfl rfl (O.assign (v := .bool _) rfl) ?_
        refine Seq.nil ?_
        refine hK10 ?_
        refine Cd.seq (fun K11 hK11 => ?_)
        refine Cd.block ?_
        refine Cd.seq (fun K12 hK12 => ?_)
        refine Cd.region [0, 1] rfl ?_
        refine Seq.rd0 at0 rfl rfl (O.move (v := .bool _) rfl) ?_
        refine Seq.rd0 at1 rfl rfl (O.assign (v := .bool _) rfl) ?_
        refine Seq.nil ?_
        refine hK12 ?_
        refine Cd.cond ((hasS vs x.stamp)) rfl (fun t13 => ?_) (fun t13 => ?_)
        · skip
          refine Cd.seq (fun K14 hK14 => ?_)
          refine Cd.region [0] rfl ?_
          refine Seq.rd0 at0 rfl rfl (O.assign (v := .int .i64 _) rfl) ?_
          refine Seq.nil ?_
          refine hK14 ?_
          refine Cd.ret ?_
          have hok1 : ¬ (¬ x.stamp.good ∨ 200 < (x.val.size : Int) ∨ (x.gone = true ∧ ¬ x.val = ⟨#[]⟩)) := by rintro (h | h | ⟨h, h9⟩) <;> first | (simp_all; done) | omega
          have hpe : putE vs x = 5 := by unfold putE; rw [if_neg hok1, if_pos (by assumption)]
          have hone : One cb (afterPut vs x) ((cb, .cells #[.slice av vs.length cap] 300 (0, 0)) :: Ls) := by
            have h2 : afterPut vs x = vs := by unfold afterPut; rw [if_neg (by omega)]
            rw [h2]; exact ⟨av, cap, Ls, rfl, ho, hs, h50⟩
          exact hR _ _ (Res.one (v := .int .i64 _) rfl rfl) ⟨by rw [hpe], _, hone, rfl⟩ (.cons _ (.refl _))
        · skip
          refine Cd.seq (fun K15 hK15 => ?_)
          refine Cd.region [0, 1, 2, 3, 4, 5, 6] rfl ?_
          refine Seq.rd0 at0 rfl rfl (O.move (v := .pointer _) rfl) ?_
          refine Seq.rd0 at1 rfl rfl (O.nilP rfl) ?_
          refine Seq.rd0 at2 rfl rfl (O.field fo_300_0 rfl) ?_
          refine Seq.rd1 at3 rfl rfl (O.load kd_239 rfl r1_0) Rd.head.cons ?_
          refine Seq.rd0 at4 rfl rfl (O.lenS ds_239 rfl) ?_
          refine Seq.rd0 at5 rfl rfl (O.geq rfl rfl) ?_
          refine Seq.rd0 at6 rfl rfl (O.assign (v := .bool _) rfl) ?_
          refine Seq.nil ?_
          refine hK15 ?_
          refine Cd.if ((50 : Int) ≤ (vs.length : Int)) rfl (fun t16 => ?_) (fun t16 => ?_)
          · skip
            refine Cd.seq (fun K17 hK17 => ?_)
            refine Cd.region [0] rfl ?_
            refine Seq.rd0 at0 rfl rfl (O.assign (v := .int .i64 _) rfl) ?_
            refine Seq.nil ?_
            refine hK17 ?_
            refine Cd.ret ?_
            have hok1 : ¬ (¬ x.stamp.good ∨ 200 < (x.val.size : Int) ∨ (x.gone = true ∧ ¬ x.val = ⟨#[]⟩)) := by rintro (h | h | ⟨h, h9⟩) <;> first | (simp_all; done) | omega
            have hpe : putE vs x = 6 := by unfold putE; rw [if_neg hok1, if_neg (by simp_all), if_pos (by omega)]
            have hone : One cb (afterPut vs x) ((cb, .cells #[.slice av vs.length cap] 300 (0, 0)) :: Ls) := by
              have h2 : afterPut vs x = vs := by unfold afterPut; rw [if_neg (by omega)]
              rw [h2]; exact ⟨av, cap, Ls, rfl, ho, hs, h50⟩
            exact hR _ _ (Res.one (v := .int .i64 _) rfl rfl) ⟨by rw [hpe], _, hone, rfl⟩ (.cons _ (.refl _))
          · skip
            refine Cd.skip ?_
            refine hK11 ?_
            refine Cd.seq (fun K18 hK18 => ?_)
            refine Cd.draw 12 rfl po ?_
            refine Any.rd0 0 at0 rfl rfl (O.move (v := .pointer _) rfl) (by kernel_rfl) (by kernel_rfl) (by kernel_rfl) ?_
            refine Any.rd0 1 at1 rfl rfl (O.move (v := .pointer _) rfl) (by kernel_rfl) (by kernel_rfl) (by kernel_rfl) ?_
            refine Any.rd0 2 at2 rfl rfl (O.nilP rfl) (by kernel_rfl) (by kernel_rfl) (by kernel_rfl) ?_
            refine Any.rd0 3 at3 rfl rfl (O.field fo_300_0 rfl) (by kernel_rfl) (by kernel_rfl) (by kernel_rfl) ?_
            refine Any.rd0 5 at5 rfl rfl (O.move (v := .int .i64 _) rfl) (by kernel_rfl) (by kernel_rfl) (by kernel_rfl) ?_
            refine Any.rd1 6 at6 rfl rfl (O.loadA kd_242 rfl (Nat.le_of_ble_eq_true rfl) (Version_all _)) Rd.head (by kernel_rfl) (by kernel_rfl) (by kernel_rfl) ?_
            refine Any.two 4 7 at4 at7 rfl rfl (by kernel_rfl) ⟨trivial, Rd.head⟩ ?_ ?_
            · skip
              refine Op.rd1 rfl (O.load kd_239 rfl r1_0) Rd.head.cons ?_
              refine Any.toK ?_
              refine Any.one 7 at7 rfl (by kernel_rfl) ⟨trivial, Rd.head⟩ ?_
              refine Op.new rfl (O.buildSlice (el := 242) rfl (cs := (rows Version_enc [x])) (by kernel_rfl)) ?_
              intro b19 hb19
              refine Any.toK ?_
              refine Any.one 8 at8 rfl (by kernel_rfl) ⟨trivial, Rd.head.cons⟩ ?_
              refine Op.callF rfl hb_224 (Fn.perm (C_Insert (R := [(b19, _), (b2, _), (cb, _)] ++ L) ho (below_le vs x.stamp) (by omega) List.mem_cons_self) (bring (pre := [(b19, _), (b2, _), (cb, _)]))) rfl ?_
              rintro _ _ ⟨av2, cap2, Ls2, rfl, ho2, rfl⟩
              refine Ent.perm ?_ (bring (Ls := Ls2) (pre := [(b19, _), (b2, _), (cb, _)]) (R := L)).symm
              refine Any.toK ?_
              refine Any.rd0 9 at9 rfl rfl (O.nilP rfl) (by kernel_rfl) (by kernel_rfl) (by kernel_rfl) ?_
              refine Any.rd0 10 at10 rfl rfl (O.field fo_300_0 rfl) (by kernel_rfl) (by kernel_rfl) (by kernel_rfl) ?_
              refine Any.one 11 at11 rfl (by kernel_rfl) ⟨trivial, Rd.head.cons⟩ ?_
              refine Op.set2 rfl (O.store1 kd_239 rfl (v := .slice _ _ _) rfl (Nat.le_of_ble_eq_true rfl) rfl (cs' := #[.slice av2 (vs.length + 1) cap2]) rfl) ?_
              refine Any.toK ?_
              refine Any.done (by kernel_rfl) ⟨trivial, Rd.head.cons⟩ ?_
              refine hK18 ?_
              refine Cd.seq (fun K20 hK20 => ?_)
              refine Cd.region [0] rfl ?_
              refine Seq.rd0 at0 rfl rfl (O.assign (v := .int .i64 _) rfl) ?_
              refine Seq.nil ?_
              refine hK20 ?_
              refine Cd.ret ?_
              have hok1 : ¬ (¬ x.stamp.good ∨ 200 < (x.val.size : Int) ∨ (x.gone = true ∧ ¬ x.val = ⟨#[]⟩)) := by rintro (h | h | ⟨h, h9⟩) <;> first | (simp_all; done) | omega
              have hpe : putE vs x = 0 := by unfold putE; rw [if_neg hok1, if_neg (by simp_all), if_neg (by omega)]
              have hone : One cb (afterPut vs x) ((cb, .cells #[.slice av2 (vs.length + 1) cap2] 300 (0, 0)) :: Ls2) := by
                have h1 : hasS vs x.stamp = false := by simp_all
                have h2 : afterPut vs x = putV vs x := by unfold afterPut; rw [if_pos hpe]
                rw [h2]
                exact ⟨av2, cap2, Ls2, by rw [putV_length], by rw [putV_length]; exact ho2, putV_sorted hs h1, by rw [putV_length]; omega⟩
              exact hR _ _ (Res.one (v := .int .i64 _) rfl rfl) ⟨by rw [hpe], _, hone, rfl⟩ (.cons _ (.cons _ (.refl _)))
            · skip
              refine Op.new rfl (O.buildSlice (el := 242) rfl (cs := (rows Version_enc [x])) (by kernel_rfl)) ?_
              intro b21 hb21
              refine Any.toK ?_
              refine Any.one 4 at4 rfl (by kernel_rfl) ⟨trivial, Rd.head.cons⟩ ?_
              refine Op.rd1 rfl (O.load kd_239 rfl r1_0) Rd.head.cons.cons ?_
              refine Any.toK ?_
              refine Any.one 8 at8 rfl (by kernel_rfl) ⟨trivial, Rd.head.cons⟩ ?_
              refine Op.callF rfl hb_224 (Fn.perm (C_Insert (R := [(b21, _), (b2, _), (cb, _)] ++ L) ho (below_le vs x.stamp) (by omega) List.mem_cons_self) (bring (pre := [(b21, _), (b2, _), (cb, _)]))) rfl ?_
              rintro _ _ ⟨av2, cap2, Ls2, rfl, ho2, rfl⟩
              refine Ent.perm ?_ (bring (Ls := Ls2) (pre := [(b21, _), (b2, _), (cb, _)]) (R := L)).symm
              refine Any.toK ?_
              refine Any.rd0 9 at9 rfl rfl (O.nilP rfl) (by kernel_rfl) (by kernel_rfl) (by kernel_rfl) ?_
              refine Any.rd0 10 at10 rfl rfl (O.field fo_300_0 rfl) (by kernel_rfl) (by kernel_rfl) (by kernel_rfl) ?_
              refine Any.one 11 at11 rfl (by kernel_rfl) ⟨trivial, Rd.head.cons⟩ ?_
              refine Op.set2 rfl (O.store1 kd_239 rfl (v := .slice _ _ _) rfl (Nat.le_of_ble_eq_true rfl) rfl (cs' := #[.slice av2 (vs.length + 1) cap2]) rfl) ?_
              refine Any.toK ?_
              refine Any.done (by kernel_rfl) ⟨trivial, Rd.head.cons⟩ ?_
              refine hK18 ?_
              refine Cd.seq (fun K22 hK22 => ?_)
              refine Cd.region [0] rfl ?_
              refine Seq.rd0 at0 rfl rfl (O.assign (v := .int .i64 _) rfl) ?_
              refine Seq.nil ?_
              refine hK22 ?_
              refine Cd.ret ?_
              have hok1 : ¬ (¬ x.stamp.good ∨ 200 < (x.val.size : Int) ∨ (x.gone = true ∧ ¬ x.val = ⟨#[]⟩)) := by rintro (h | h | ⟨h, h9⟩) <;> first | (simp_all; done) | omega
              have hpe : putE vs x = 0 := by unfold putE; rw [if_neg hok1, if_neg (by simp_all), if_neg (by omega)]
              have hone : One cb (afterPut vs x) ((cb, .cells #[.slice av2 (vs.length + 1) cap2] 300 (0, 0)) :: Ls2) := by
                have h1 : hasS vs x.stamp = false := by simp_all
                have h2 : afterPut vs x = putV vs x := by unfold afterPut; rw [if_pos hpe]
                rw [h2]
                exact ⟨av2, cap2, Ls2, by rw [putV_length], by rw [putV_length]; exact ho2, putV_sorted hs h1, by rw [putV_length]; omega⟩
              exact hR _ _ (Res.one (v := .int .i64 _) rfl rfl) ⟨by rw [hpe], _, hone, rfl⟩ (.cons _ (.cons _ (.refl _)))
      · skip
        refine Seq.rd0 at14 rfl rfl (O.field fo_242_1 rfl) ?_
        refine Seq.rd1 at15 rfl rfl (O.load kd_9 rfl (Version_val _)) Rd.head ?_
        refine Seq.rd0 at16 rfl rfl (O.neS rfl rfl) ?_
        refine Seq.rd0 at17 rfl rfl (O.pickT (v := .bool _) rfl rfl) ?_
        refine Seq.rd0 at18 rfl rfl (O.pickF (v := .bool _) rfl rfl) ?_
        refine Seq.nil ?_
        refine hK4 ?_
        refine Cd.ifn (x.val = ⟨#[]⟩) rfl (fun t23 => ?_) (fun t23 => ?_)
        · skip
          refine Cd.seq (fun K24 hK24 => ?_)
          refine Cd.region [0] rfl ?_
          refine Seq.rd0 at0 rfl rfl (O.assign (v := .int .i64 _) rfl) ?_
          refine Seq.nil ?_
          refine hK24 ?_
          refine Cd.ret ?_
          have hbad : ¬ x.stamp.good ∨ 200 < (x.val.size : Int) ∨ (x.gone = true ∧ ¬ x.val = ⟨#[]⟩) := by first | (left; assumption) | (left; simp_all; done) | (right; left; assumption) | (right; right; exact ⟨by assumption, by assumption⟩)
          have hpe : putE vs x = 1 := by unfold putE; rw [if_pos hbad]
          have hone : One cb (afterPut vs x) ((cb, .cells #[.slice av vs.length cap] 300 (0, 0)) :: Ls) := by
            have h2 : afterPut vs x = vs := by unfold afterPut; rw [if_neg (by omega)]
            rw [h2]; exact ⟨av, cap, Ls, rfl, ho, hs, h50⟩
          exact hR _ _ (Res.one (v := .int .i64 _) rfl rfl) ⟨by rw [hpe], _, hone, rfl⟩ (.cons _ (.refl _))
        · skip
          refine Cd.skip ?_
          refine hK3 ?_
          refine Cd.seq (fun K25 hK25 => ?_)
          refine Cd.region [0, 1, 2, 3, 4, 5, 6, 7, 8] rfl ?_
          refine Seq.rd0 at0 rfl rfl (O.move (v := .pointer _) rfl) ?_
          refine Seq.rd0 at1 rfl rfl (O.field fo_242_0 rfl) ?_
          refine Seq.rd1 at2 rfl rfl (O.loadA kd_24 rfl (Nat.le_of_ble_eq_true rfl) (Version_stamp _)) Rd.head ?_
          refine Seq.op at3 rfl (Op.callF rfl hb_223 (C_place hs (by omega) (hC.cons)) rfl ?_)
          rintro _ _ ⟨rfl, rfl⟩
          refine Seq.rd0 at4 rfl rfl (O.move (v := .tuple _) rfl) ?_
          refine Seq.rd0 at5 rfl rfl (O.ext rfl r2_0) ?_
          refine Seq.rd0 at6 rfl rfl (O.ext rfl r2_1) ?_
          refine Seq.rd0 at7 rfl rfl (O.assign (v := .int .i64 _) rfl) ?_
          refine Seq.rd0 at8 rfl rfl (O.assign (v := .bool _) rfl) ?_
          refine Seq.nil ?_
          refine hK25 ?_
          refine Cd.seq (fun K26 hK26 => ?_)
          refine Cd.block ?_
          refine Cd.seq (fun K27 hK27 => ?_)
          refine Cd.region [0, 1] rfl ?_
          refine Seq.rd0 at0 rfl rfl (O.move (v := .bool _) rfl) ?_
          refine Seq.rd0 at1 rfl rfl (O.assign (v := .bool _) rfl) ?_
          refine Seq.nil ?_
          refine hK27 ?_
          refine Cd.cond ((hasS vs x.stamp)) rfl (fun t28 => ?_) (fun t28 => ?_)
          · skip
            refine Cd.seq (fun K29 hK29 => ?_)
            refine Cd.region [0] rfl ?_
            refine Seq.rd0 at0 rfl rfl (O.assign (v := .int .i64 _) rfl) ?_
            refine Seq.nil ?_
            refine hK29 ?_
            refine Cd.ret ?_
            have hok1 : ¬ (¬ x.stamp.good ∨ 200 < (x.val.size : Int) ∨ (x.gone = true ∧ ¬ x.val = ⟨#[]⟩)) := by rintro (h | h | ⟨h, h9⟩) <;> first | (simp_all; done) | omega
            have hpe : putE vs x = 5 := by unfold putE; rw [if_neg hok1, if_pos (by assumption)]
            have hone : One cb (afterPut vs x) ((cb, .cells #[.slice av vs.length cap] 300 (0, 0)) :: Ls) := by
              have h2 : afterPut vs x = vs := by unfold afterPut; rw [if_neg (by omega)]
              rw [h2]; exact ⟨av, cap, Ls, rfl, ho, hs, h50⟩
            exact hR _ _ (Res.one (v := .int .i64 _) rfl rfl) ⟨by rw [hpe], _, hone, rfl⟩ (.cons _ (.refl _))
          · skip
            refine Cd.seq (fun K30 hK30 => ?_)
            refine Cd.region [0, 1, 2, 3, 4, 5, 6] rfl ?_
            refine Seq.rd0 at0 rfl rfl (O.move (v := .pointer _) rfl) ?_
            refine Seq.rd0 at1 rfl rfl (O.nilP rfl) ?_
            refine Seq.rd0 at2 rfl rfl (O.field fo_300_0 rfl) ?_
            refine Seq.rd1 at3 rfl rfl (O.load kd_239 rfl r1_0) Rd.head.cons ?_
            refine Seq.rd0 at4 rfl rfl (O.lenS ds_239 rfl) ?_
            refine Seq.rd0 at5 rfl rfl (O.geq rfl rfl) ?_
            refine Seq.rd0 at6 rfl rfl (O.assign (v := .bool _) rfl) ?_
            refine Seq.nil ?_
            refine hK30 ?_
            refine Cd.if ((50 : Int) ≤ (vs.length : Int)) rfl (fun t31 => ?_) (fun t31 => ?_)
            · skip
              refine Cd.seq (fun K32 hK32 => ?_)
              refine Cd.region [0] rfl ?_
              refine Seq.rd0 at0 rfl rfl (O.assign (v := .int .i64 _) rfl) ?_
              refine Seq.nil ?_
              refine hK32 ?_
              refine Cd.ret ?_
              have hok1 : ¬ (¬ x.stamp.good ∨ 200 < (x.val.size : Int) ∨ (x.gone = true ∧ ¬ x.val = ⟨#[]⟩)) := by rintro (h | h | ⟨h, h9⟩) <;> first | (simp_all; done) | omega
              have hpe : putE vs x = 6 := by unfold putE; rw [if_neg hok1, if_neg (by simp_all), if_pos (by omega)]
              have hone : One cb (afterPut vs x) ((cb, .cells #[.slice av vs.length cap] 300 (0, 0)) :: Ls) := by
                have h2 : afterPut vs x = vs := by unfold afterPut; rw [if_neg (by omega)]
                rw [h2]; exact ⟨av, cap, Ls, rfl, ho, hs, h50⟩
              exact hR _ _ (Res.one (v := .int .i64 _) rfl rfl) ⟨by rw [hpe], _, hone, rfl⟩ (.cons _ (.refl _))
            · skip
              refine Cd.skip ?_
              refine hK26 ?_
              refine Cd.seq (fun K33 hK33 => ?_)
              refine Cd.draw 12 rfl po ?_
              refine Any.rd0 0 at0 rfl rfl (O.move (v := .pointer _) rfl) (by kernel_rfl) (by kernel_rfl) (by kernel_rfl) ?_
              refine Any.rd0 1 at1 rfl rfl (O.move (v := .pointer _) rfl) (by kernel_rfl) (by kernel_rfl) (by kernel_rfl) ?_
              refine Any.rd0 2 at2 rfl rfl (O.nilP rfl) (by kernel_rfl) (by kernel_rfl) (by kernel_rfl) ?_
              refine Any.rd0 3 at3 rfl rfl (O.field fo_300_0 rfl) (by kernel_rfl) (by kernel_rfl) (by kernel_rfl) ?_
              refine Any.rd0 5 at5 rfl rfl (O.move (v := .int .i64 _) rfl) (by kernel_rfl) (by kernel_rfl) (by kernel_rfl) ?_
              refine Any.rd1 6 at6 rfl rfl (O.loadA kd_242 rfl (Nat.le_of_ble_eq_true rfl) (Version_all _)) Rd.head (by kernel_rfl) (by kernel_rfl) (by kernel_rfl) ?_
              refine Any.two 4 7 at4 at7 rfl rfl (by kernel_rfl) ⟨trivial, Rd.head⟩ ?_ ?_
              · skip
                refine Op.rd1 rfl (O.load kd_239 rfl r1_0) Rd.head.cons ?_
                refine Any.toK ?_
                refine Any.one 7 at7 rfl (by kernel_rfl) ⟨trivial, Rd.head⟩ ?_
                refine Op.new rfl (O.buildSlice (el := 242) rfl (cs := (rows Version_enc [x])) (by kernel_rfl)) ?_
                intro b34 hb34
                refine Any.toK ?_
                refine Any.one 8 at8 rfl (by kernel_rfl) ⟨trivial, Rd.head.cons⟩ ?_
                refine Op.callF rfl hb_224 (Fn.perm (C_Insert (R := [(b34, _), (b2, _), (cb, _)] ++ L) ho (below_le vs x.stamp) (by omega) List.mem_cons_self) (bring (pre := [(b34, _), (b2, _), (cb, _)]))) rfl ?_
                rintro _ _ ⟨av2, cap2, Ls2, rfl, ho2, rfl⟩
                refine Ent.perm ?_ (bring (Ls := Ls2) (pre := [(b34, _), (b2, _), (cb, _)]) (R := L)).symm
                refine Any.toK ?_
                refine Any.rd0 9 at9 rfl rfl (O.nilP rfl) (by kernel_rfl) (by kernel_rfl) (by kernel_rfl) ?_
                refine Any.rd0 10 at10 rfl rfl (O.field fo_300_0 rfl) (by kernel_rfl) (by kernel_rfl) (by kernel_rfl) ?_
                refine Any.one 11 at11 rfl (by kernel_rfl) ⟨trivial, Rd.head.cons⟩ ?_
                refine Op.set2 rfl (O.store1 kd_239 rfl (v := .slice _ _ _) rfl (Nat.le_of_ble_eq_true rfl) rfl (cs' := #[.slice av2 (vs.length + 1) cap2]) rfl) ?_
                refine Any.toK ?_
                refine Any.done (by kernel_rfl) ⟨trivial, Rd.head.cons⟩ ?_
                refine hK33 ?_
                refine Cd.seq (fun K35 hK35 => ?_)
                refine Cd.region [0] rfl ?_
                refine Seq.rd0 at0 rfl rfl (O.assign (v := .int .i64 _) rfl) ?_
                refine Seq.nil ?_
                refine hK35 ?_
                refine Cd.ret ?_
                have hok1 : ¬ (¬ x.stamp.good ∨ 200 < (x.val.size : Int) ∨ (x.gone = true ∧ ¬ x.val = ⟨#[]⟩)) := by rintro (h | h | ⟨h, h9⟩) <;> first | (simp_all; done) | omega
                have hpe : putE vs x = 0 := by unfold putE; rw [if_neg hok1, if_neg (by simp_all), if_neg (by omega)]
                have hone : One cb (afterPut vs x) ((cb, .cells #[.slice av2 (vs.length + 1) cap2] 300 (0, 0)) :: Ls2) := by
                  have h1 : hasS vs x.stamp = false := by simp_all
                  have h2 : afterPut vs x = putV vs x := by unfold afterPut; rw [if_pos hpe]
                  rw [h2]
                  exact ⟨av2, cap2, Ls2, by rw [putV_length], by rw [putV_length]; exact ho2, putV_sorted hs h1, by rw [putV_length]; omega⟩
                exact hR _ _ (Res.one (v := .int .i64 _) rfl rfl) ⟨by rw [hpe], _, hone, rfl⟩ (.cons _ (.cons _ (.refl _)))
              · skip
                refine Op.new rfl (O.buildSlice (el := 242) rfl (cs := (rows Version_enc [x])) (by kernel_rfl)) ?_
                intro b36 hb36
                refine Any.toK ?_
                refine Any.one 4 at4 rfl (by kernel_rfl) ⟨trivial, Rd.head.cons⟩ ?_
                refine Op.rd1 rfl (O.load kd_239 rfl r1_0) Rd.head.cons.cons ?_
                refine Any.toK ?_
                refine Any.one 8 at8 rfl (by kernel_rfl) ⟨trivial, Rd.head.cons⟩ ?_
                refine Op.callF rfl hb_224 (Fn.perm (C_Insert (R := [(b36, _), (b2, _), (cb, _)] ++ L) ho (below_le vs x.stamp) (by omega) List.mem_cons_self) (bring (pre := [(b36, _), (b2, _), (cb, _)]))) rfl ?_
                rintro _ _ ⟨av2, cap2, Ls2, rfl, ho2, rfl⟩
                refine Ent.perm ?_ (bring (Ls := Ls2) (pre := [(b36, _), (b2, _), (cb, _)]) (R := L)).symm
                refine Any.toK ?_
                refine Any.rd0 9 at9 rfl rfl (O.nilP rfl) (by kernel_rfl) (by kernel_rfl) (by kernel_rfl) ?_
                refine Any.rd0 10 at10 rfl rfl (O.field fo_300_0 rfl) (by kernel_rfl) (by kernel_rfl) (by kernel_rfl) ?_
                refine Any.one 11 at11 rfl (by kernel_rfl) ⟨trivial, Rd.head.cons⟩ ?_
                refine Op.set2 rfl (O.store1 kd_239 rfl (v := .slice _ _ _) rfl (Nat.le_of_ble_eq_true rfl) rfl (cs' := #[.slice av2 (vs.length + 1) cap2]) rfl) ?_
                refine Any.toK ?_
                refine Any.done (by kernel_rfl) ⟨trivial, Rd.head.cons⟩ ?_
                refine hK33 ?_
                refine Cd.seq (fun K37 hK37 => ?_)
                refine Cd.region [0] rfl ?_
                refine Seq.rd0 at0 rfl rfl (O.assign (v := .int .i64 _) rfl) ?_
                refine Seq.nil ?_
                refine hK37 ?_
                refine Cd.ret ?_
                have hok1 : ¬ (¬ x.stamp.good ∨ 200 < (x.val.size : Int) ∨ (x.gone = true ∧ ¬ x.val = ⟨#[]⟩)) := by rintro (h | h | ⟨h, h9⟩) <;> first | (simp_all; done) | omega
                have hpe : putE vs x = 0 := by unfold putE; rw [if_neg hok1, if_neg (by simp_all), if_neg (by omega)]
                have hone : One cb (afterPut vs x) ((cb, .cells #[.slice av2 (vs.length + 1) cap2] 300 (0, 0)) :: Ls2) := by
                  have h1 : hasS vs x.stamp = false := by simp_all
                  have h2 : afterPut vs x = putV vs x := by unfold afterPut; rw [if_pos hpe]
                  rw [h2]
                  exact ⟨av2, cap2, Ls2, by rw [putV_length], by rw [putV_length]; exact ho2, putV_sorted hs h1, by rw [putV_length]; omega⟩
                exact hR _ _ (Res.one (v := .int .i64 _) rfl rfl) ⟨by rw [hpe], _, hone, rfl⟩ (.cons _ (.cons _ (.refl _)))

theorem C_Put {c : Cx} {R G : List Pt} {cb : Nat} {vs : List Version} {x : Version} (hO : One cb vs G) :
    Fn Tryz.prog 173 #[.pointer (some ⟨cb, 0, none⟩), .agg (Version_enc x)] c (G ++ R) (fun v L' => v = .int .i64 (putE vs x) ∧ ∃ G', One cb (afterPut vs x) G' ∧ L' = G' ++ R) := by
  have hC := hO.ch (c := c) (R := R)
  obtain ⟨av, cap, Ls, rfl, h1, h2, h3⟩ := hO
  exact C_Put_own (L := R) h1 h2 h3 hC

end Go.X

namespace Go.X
open Go.Proofs
theorem hb_171 : hasBody Tryz.prog 171 = true := by kernel_rfl
theorem hb_172 : hasBody Tryz.prog 172 = true := by kernel_rfl
theorem hb_173 : hasBody Tryz.prog 173 = true := by kernel_rfl
theorem perm3 {X G C1 C2 R : List Pt} (h : (G ++ C1).Perm C2) : (G ++ (X ++ (C1 ++ R))).Perm (X ++ (C2 ++ R)) := by
  refine (List.perm_append_comm_assoc _ _ _).trans (List.Perm.append_left X ?_)
  rw [← List.append_assoc]; exact h.append_right R
/-- 'of', and the chain it gives in front -/
theorem C_ofTake {c : Cx} {X Cs R : List Pt} {sb : Nat} {l : List (Key × CV)} {k : Key} (hS : StAt c (X ++ (Cs ++ R)) sb l) (hC : ChOwn l Cs) : Fn Tryz.prog 170 #[.pointer (some ⟨sb, 0, none⟩), .agg (Key_enc k)] c (X ++ (Cs ++ R))
    (fun v L' => ∃ cb G C1, v = .pointer (some ⟨cb, 0, none⟩) ∧ One cb (getS l k) G ∧ (∀ vs' G', One cb vs' G' → ∃ Cs', ChOwn (aput l k (cb, vs')) Cs' ∧ (G' ++ C1).Perm Cs') ∧ L' = G ++ (X ++ (C1 ++ R))) := by
  cases hl : alook l k with
  | some q =>
    have hg : getS l k = q.2 := by unfold getS; rw [hl]
    obtain ⟨G, C1, hp, hO, hb⟩ := hC.take hl
    refine Fn.post (C_of_some hS hl) fun v L' ⟨hv, hL⟩ => ⟨_, ⟨q.1, G, C1, hv, by rw [hg]; exact hO, hb, rfl⟩, ?_⟩
    rw [hL]; exact (perm3 hp.symm).symm
  | none =>
    have hg : getS l k = [] := by unfold getS; rw [hl]
    refine Fn.mono (C_of_none hS hl) fun v L' ⟨b, hb, hv, hL⟩ => ⟨b, [_], Cs, hv, by rw [hg]; exact One.new, fun vs' G' hG' => hC.new hG' hl, hL⟩
theorem app_len {s : Stamp} {l l1 : List (Key × CV)} {ws : List Write} {i : Nat} (hA : AppS s l (ws.take i) l1) (h : l1.length ≤ l.length + newN l ws i) (hi : i < ws.length) (q : CV) :
    (aput l1 ws[i].key q).length ≤ l.length + newN l ws (i + 1) := by
  rw [aput_length, newN_step hi]
  split
  · split <;> omega
  · rename_i hn
    have hn2 : ws[i].key ∉ l.map Prod.fst := fun hm => hn ((hA.keys _).2 (.inr hm))
    rw [(alook_none hn2).1]
    simp; omega
theorem app_next {s : Stamp} {l l1 : List (Key × CV)} {ws : List Write} {i cb : Nat} (hA : AppS s l (ws.take i) l1) (hi : i < ws.length) :
    AppS s l (ws.take (i + 1)) (aput l1 ws[i].key (cb, afterPut (getS l1 ws[i].key) ⟨s, ws[i].val, ws[i].gone⟩)) := by
  rw [← List.take_append_getElem hi]; exact .snoc hA
section
variable {l : List (Key × CV)} {s : Stamp} {ws : List Write}
theorem app1 (h : ¬ s.good ∨ manyWs ws = false ∨ goodWs ws = false) : applyE l s ws = 1 := if_pos h
theorem app5 (h1 : decide s.good = true) (h2 : manyWs ws = true) (h3 : (!goodWs ws) = false) (h : (ws.any fun w => hasS (getS l w.key) s) = true) : applyE l s ws = 5 := by
  unfold applyE; rw [if_neg (by simp_all), if_pos h]
theorem app6 (h1 : decide s.good = true) (h2 : manyWs ws = true) (h3 : (!goodWs ws) = false) (h : (ws.any fun w => hasS (getS l w.key) s) = false) (h4 : (!roomS l ws) = true) : applyE l s ws = 6 := by
  unfold applyE; rw [if_neg (by simp_all), if_neg (by rw [h]; decide), if_pos (by simpa using h4)]
theorem app0 (h1 : decide s.good = true) (h2 : manyWs ws = true) (h3 : (!goodWs ws) = false) (h : (ws.any fun w => hasS (getS l w.key) s) = false) (h4 : (!roomS l ws) = false) : applyE l s ws = 0 := by
  unfold applyE; rw [if_neg (by simp_all), if_neg (by rw [h]; decide), if_neg (by simpa using h4)]
theorem roomS_len (h4 : (!roomS l ws) = false) : l.length + newN l ws ws.length ≤ 200 := by
  unfold roomS at h4
  split at h4
  · cases h4
  · simpa using h4
end

theorem newN_mono {l : List (Key × CV)} {ws : List Write} {i : Nat} (h : i ≤ ws.length) : newN l ws i ≤ newN l ws ws.length := by
  unfold newN
  exact ((List.take_sublist_take_left h).filter _).length_le

set_option maxRecDepth 100000 in
set_option maxHeartbeats 2000000 in
theorem C_Apply_own {c : Cx} {L : List Pt} {sb mb ck : Nat} {es : Array MapEntry} {Cs : List Pt} {l : List (Key × CV)} {s : Stamp} (hm : MapIs keyV cvV es ck l) (hC : ChOwn l Cs) (hsz : l.length ≤ 200) {av : Option Addr} {nw cw : Nat} {ws : List Write} (hW : SlAt c L Write_enc av nw ws) : Fn Tryz.prog 94 #[.pointer (some ⟨sb, 0, none⟩), .agg (Stamp_enc s), .slice av nw cw] c ((sb, .cells #[.map (some mb)] 245 (0, 0)) :: (mb, .map es ck) :: (Cs ++ L)) (fun v L' => v = .int .i64 (applyE l s ws) ∧ ∃ l' Ls', (applyE l s ws = 0 → AppS s l ws l') ∧ (¬ applyE l s ws = 0 → l' = l) ∧ StOwn sb l' Ls' ∧ L' = Ls' ++ L) := by
  have hwl := hW.len
  have hwt := hW.lt
  have hS := StOwn.at_ (c := c) (R := L) (sb := sb) (Ls := (sb, .cells #[.map (some mb)] 245 (0, 0)) :: (mb, .map es ck) :: Cs) ⟨⟨mb, es, ck, Cs, rfl, hm, hC⟩, hsz⟩
  refine Fn.enter Tryz.func94 rfl 68 rfl rfl (fun R hR => ?_)
  refine Cd.seq (fun K1 hK1 => ?_)
  refine Cd.region [0, 1] rfl ?_
  refine Seq.op at0 rfl (Op.new rfl (O.box (v := .agg _) rfl (cs := (Stamp_enc s)) rfl) ?_)
  intro b2 hb2
  refine Seq.rd0 at1 rfl rfl (O.assign (v := .int .i64 _) rfl) ?_
  refine Seq.nil ?_
  refine hK1 ?_
  refine Cd.seq (fun K3 hK3 => ?_)
  refine Cd.seq (fun K4 hK4 => ?_)
  refine Cd.region [0, 1, 2, 3, 4, 5, 6, 7, 8, 9, 10, 11, 12] rfl ?_
  refine Seq.rd1 at0 rfl rfl (O.loadA kd_24 rfl (Nat.le_of_ble_eq_true rfl) (Stamp_all _)) Rd.head ?_
  refine Seq.op at1 rfl (Op.callF rfl hb_98 C_stamp_Good rfl ?_)
  rintro _ _ ⟨rfl, rfl⟩
  refine Seq.rd0 at2 rfl rfl (O.not rfl) ?_
  refine Seq.rd0 at3 rfl rfl (O.move (v := .bool _) rfl) ?_
  cases t5 : decide (s).good
  · skip
    refine Seq.pass at4 rfl rfl ?_
    refine Seq.pass at5 rfl rfl ?_
    refine Seq.pass at6 rfl rfl ?_
    refine Seq.rd0 at7 rfl rfl (O.pickT (v := .bool _) rfl rfl) ?_
    refine Seq.rd0 at8 rfl rfl (O.move (v := .bool _) rfl) ?_
    refine Seq.pass at9 rfl rfl ?_
    refine Seq.pass at10 rfl rfl ?_
    refine Seq.pass at11 rfl rfl ?_
    refine Seq.rd0 at12 rfl rfl (O.pickT (v := .bool _) rfl rfl) ?_
    refine Seq.nil ?_
    refine hK4 ?_
    refine Cd.condT rfl ?_
    refine Cd.seq (fun K6 hK6 => ?_)
    refine Cd.region [0] rfl ?_
    refine Seq.rd0 at0 rfl rfl (O.assign (v := .int .i64 _) rfl) ?_
    refine Seq.nil ?_
    refine hK6 ?_
    refine Cd.ret ?_
    have hap : applyE l s ws = 1 := by
      first | exact app1 (.inl (of_decide_eq_false (by assumption))) | exact app1 (.inr (.inl (by assumption))) | (have h9 : (!goodWs ws) = true := by assumption); exact app1 (.inr (.inr (by simpa using h9)))
    have hst : StOwn sb l ((sb, .cells #[.map (some mb)] 245 (0, 0)) :: (mb, .map es ck) :: Cs) := ⟨⟨mb, es, ck, Cs, rfl, hm, hC⟩, hsz⟩
    exact hR _ _ (Res.one (v := .int .i64 _) rfl rfl) ⟨by rw [hap], l, _, fun h => absurd (hap.symm.trans h) (by decide), fun _ => rfl, hst, rfl⟩ (.cons _ (.refl _))
  · skip
    refine Seq.rd0 at4 rfl rfl (O.move (v := .slice _ _ _) rfl) ?_
    refine Seq.op at5 rfl (Op.callF rfl hb_169 (C_Many hW.app.cons.cons.cons) rfl ?_)
    rintro _ _ ⟨rfl, rfl⟩
    refine Seq.rd0 at6 rfl rfl (O.not rfl) ?_
    refine Seq.rd0 at7 rfl rfl (O.pickF (v := .bool _) rfl rfl) ?_
    refine Seq.rd0 at8 rfl rfl (O.move (v := .bool _) rfl) ?_
    cases t7 : manyWs ws
    · skip
      refine Seq.pass at9 rfl rfl ?_
      refine Seq.pass at10 rfl rfl ?_
      refine Seq.pass at11 rfl rfl ?_
      refine Seq.rd0 at12 rfl rfl (O.pickT (v := .bool _) rfl rfl) ?_
      refine Seq.nil ?_
      refine hK4 ?_
      refine Cd.condT rfl ?_
      refine Cd.seq (fun K8 hK8 => ?_)
      refine Cd.region [0] rfl ?_
      refine Seq.rd0 at0 rfl rfl (O.assign (v := .int .i64 _) rfl) ?_
      refine Seq.nil ?_
      refine hK8 ?_
      refine Cd.ret ?_
      have hap : applyE l s ws = 1 := by
        first | exact app1 (.inl (of_decide_eq_false (by assumption))) | exact app1 (.inr (.inl (by assumption))) | (have h9 : (!goodWs ws) = true := by assumption); exact app1 (.inr (.inr (by simpa using h9)))
      have hst : StOwn sb l ((sb, .cells #[.map (some mb)] 245 (0, 0)) :: (mb, .map es ck) :: Cs) := ⟨⟨mb, es, ck, Cs, rfl, hm, hC⟩, hsz⟩
      exact hR _ _ (Res.one (v := .int .i64 _) rfl rfl) ⟨by rw [hap], l, _, fun h => absurd (hap.symm.trans h) (by decide), fun _ => rfl, hst, rfl⟩ (.cons _ (.refl _))
    · skip
      refine Seq.rd0 at9 rfl rfl (O.move (v := .slice _ _ _) rfl) ?_
      refine Seq.op at10 rfl (Op.callF rfl hb_105 (C_store_Good hW.app.cons.cons.cons) rfl ?_)
      rintro _ _ ⟨rfl, rfl⟩
      refine Seq.rd0 at11 rfl rfl (O.not rfl) ?_
      refine Seq.rd0 at12 rfl rfl (O.pickF (v := .bool _) rfl rfl) ?_
      refine Seq.nil ?_
      refine hK4 ?_
      refine Cd.cond (!(goodWs ws)) rfl (fun t9 => ?_) (fun t9 => ?_)
      · skip
        refine Cd.seq (fun K10 hK10 => ?_)
        refine Cd.region [0] rfl ?_
        refine Seq.rd0 at0 rfl rfl (O.assign (v := .int .i64 _) rfl) ?_
        refine Seq.nil ?_
        refine hK10 ?_
        refine Cd.ret ?_
        have hap : applyE l s ws = 1 := by
          first | exact app1 (.inl (of_decide_eq_false (by assumption))) | exact app1 (.inr (.inl (by assumption))) | (have h9 : (!goodWs ws) = true := by assumption); exact app1 (.inr (.inr (by simpa using h9)))
        have hst : StOwn sb l ((sb, .cells #[.map (some mb)] 245 (0, 0)) :: (mb, .map es ck) :: Cs) := ⟨⟨mb, es, ck, Cs, rfl, hm, hC⟩, hsz⟩
        exact hR _ _ (Res.one (v := .int .i64 _) rfl rfl) ⟨by rw [hap], l, _, fun h => absurd (hap.symm.trans h) (by decide), fun _ => rfl, hst, rfl⟩ (.cons _ (.refl _))
      · skip
        refine Cd.skip ?_
        refine hK3 ?_
        refine Cd.seq (fun K11 hK11 => ?_)
        refine Cd.seq (fun K12 hK12 => ?_)
        refine Cd.region [0, 1, 2] rfl ?_
        refine Seq.rd0 at0 rfl rfl (O.move (v := .slice _ _ _) rfl) ?_
        refine Seq.rd0 at1 rfl rfl (O.lenS ds_25 rfl) ?_
        refine Seq.rd0 at2 rfl rfl (O.move (v := .int .i64 _) rfl) ?_
        refine Seq.nil ?_
        refine hK12 ?_
        refine Cd.block ?_
        refine Cd.loop (fun m13 e14 L15 => ∃ i : Nat, m13 = ws.length - i ∧ e14 0 = .pointer (some ⟨sb, 0, none⟩) ∧ e14 2 = .slice av nw cw ∧ e14 4 = .pointer (some ⟨b2, 0, none⟩) ∧ e14 25 = .slice av nw cw ∧ e14 26 = .int .i64 (nw : Int) ∧ e14 27 = .int .i64 (i : Int) ∧ L15 = (b2, .cells (Stamp_enc s) 24 (0, 0)) :: (sb, .cells #[.map (some mb)] 245 (0, 0)) :: (mb, .map es ck) :: (Cs ++ (L)) ∧ i ≤ ws.length ∧ (∀ x ∈ ws.take i, hasS (getS l x.key) s = false)) _ ⟨0, rfl, rfl, rfl, rfl, rfl, rfl, rfl, rfl, Nat.zero_le _, fun w hw => by simp at hw⟩ ?_
        rintro _ e14 _ ⟨i, rfl, s16, s17, s18, s19, s20, s21, rfl, hi, hz⟩ K22 hK22
        refine Cd.seq (fun K23 hK23 => ?_)
        refine Cd.region [0] rfl ?_
        refine Seq.rd0 at0 rfl rfl (O.lss (by exact s21) (by exact s20)) ?_
        refine Seq.nil ?_
        refine hK23 ?_
        refine Cd.seq (fun K24 hK24 => ?_)
        refine Cd.if ((i : Int) < (nw : Int)) rfl (fun t25 => ?_) (fun t25 => ?_)
        · skip
          refine Cd.skip ?_
          refine hK24 ?_
          refine Cd.seq (fun K26 hK26 => ?_)
          refine Cd.block ?_
          refine Cd.seq (fun K27 hK27 => ?_)
          refine Cd.region [0, 1, 2, 3] rfl ?_
          have hlt28 : i < ws.length := by omega
          obtain ⟨pre28, sp28, el28, fz28, hav28, hrd28⟩ := hW.at_ hlt28
          refine Seq.rd0 at0 rfl rfl (O.indexG sl_25 (by exact s19) hav28 (by exact s21) (by omega) (by omega)) ?_
          refine Seq.rd1 at1 rfl rfl (O.loadA kd_47 rfl (rowRoomP Write_size (getN hlt28)) (rowAtP Write_size (getN hlt28))) hrd28.app.cons.cons.cons ?_
          refine Seq.op at2 rfl (Op.new rfl (O.alloc zo_47 (cs := (Write_enc Write.zero)) rfl) ?_)
          intro b29 hb29
          refine Seq.op at3 rfl (Op.set0 rfl (O.store kd_47 rfl (v := .agg _) rfl (Write_size _) (Write_room (Write_size _)) (Write_one _) (Write_put _ (Write_size _))) ?_)
          refine Seq.nil ?_
          refine hK27 ?_
          refine Cd.seq (fun K30 hK30 => ?_)
          refine Cd.draw 6 rfl po ?_
          refine Any.rd0 0 at0 rfl rfl (O.move (v := .pointer _) (by exact s16)) (by kernel_rfl) (by kernel_rfl) (by kernel_rfl) ?_
          refine Any.rd0 1 at1 rfl rfl (O.field fo_47_0 rfl) (by kernel_rfl) (by kernel_rfl) (by kernel_rfl) ?_
          refine Any.rd1 2 at2 rfl rfl (O.loadA kd_45 rfl (Nat.le_of_ble_eq_true rfl) (Write_key _)) Rd.head (by kernel_rfl) (by kernel_rfl) (by kernel_rfl) ?_
          refine Any.rd1 4 at4 rfl rfl (O.loadA kd_24 (by exact s18) (Nat.le_of_ble_eq_true rfl) (Stamp_all _)) Rd.head.cons (by kernel_rfl) (by kernel_rfl) (by kernel_rfl) ?_
          refine Any.one 3 at3 rfl (by kernel_rfl) ⟨⟨trivial, Rd.head⟩, Rd.head.cons⟩ ?_
          refine Op.callF rfl hb_170 (C_of (k := ws[i].key) hS.cons.cons) rfl ?_
          rintro _ _ ⟨cb31, G32, rfl, rfl, hc33, hc33s, hc33n⟩
          refine Any.toK ?_
          refine Any.one 5 at5 rfl (by kernel_rfl) ⟨⟨trivial, Rd.head.app⟩, Rd.head.cons.app⟩ ?_
          refine Op.callF rfl hb_171 (C_chain_Has hc33s hc33n hc33) rfl ?_
          rintro _ _ ⟨rfl, rfl⟩
          refine Ent.sub ?_ (sub_app (.refl _))
          refine Any.toK ?_
          refine Any.done (by kernel_rfl) ⟨⟨trivial, Rd.head⟩, Rd.head.cons⟩ ?_
          refine hK30 ?_
          refine Cd.cond ((hasS (getS l ws[i].key) s)) rfl (fun t34 => ?_) (fun t34 => ?_)
          · skip
            refine Cd.seq (fun K35 hK35 => ?_)
            refine Cd.region [0] rfl ?_
            refine Seq.rd0 at0 rfl rfl (O.assign (v := .int .i64 _) rfl) ?_
            refine Seq.nil ?_
            refine hK35 ?_
            refine Cd.ret ?_
            have hap : applyE l s ws = 5 := app5 (by assumption) (by assumption) (by assumption) (anyA_some (p := fun w : Write => hasS (getS l w.key) s) hlt28 (by assumption))
            have hst : StOwn sb l ((sb, .cells #[.map (some mb)] 245 (0, 0)) :: (mb, .map es ck) :: Cs) := ⟨⟨mb, es, ck, Cs, rfl, hm, hC⟩, hsz⟩
            exact hR _ _ (Res.one (v := .int .i64 _) rfl rfl) ⟨by rw [hap], l, _, fun h => absurd (hap.symm.trans h) (by decide), fun _ => rfl, hst, rfl⟩ (.cons _ (.cons _ (.refl _)))
          · skip
            refine Cd.skip ?_
            refine hK26 ?_
            refine Cd.region [0, 1] rfl ?_
            refine Seq.rd0 at0 rfl rfl (O.add (by exact s21) rfl (by omega) (by omega)) ?_
            refine Seq.rd0 at1 rfl rfl (O.move (v := .int .i64 _) rfl) ?_
            refine Seq.nil ?_
            refine Ent.drop ?_
            exact hK22 _ (by omega) ⟨i + 1, rfl, (by exact s16), (by exact s17), (by exact s18), (by exact s19), (by exact s20), rfl, rfl, by omega, takeA_next (p := fun x : Write => hasS (getS l x.key) s) hlt28 hz (by assumption)⟩
        · skip
          refine Cd.exit ?_
          refine hK11 ?_
          refine Cd.seq (fun K36 hK36 => ?_)
          refine Cd.seq (fun K37 hK37 => ?_)
          refine Cd.region [0, 1, 2, 3] rfl ?_
          refine Seq.rd0 at0 rfl rfl (O.move (v := .pointer _) (by exact s16)) ?_
          refine Seq.rd0 at1 rfl rfl (O.move (v := .slice _ _ _) (by exact s17)) ?_
          refine Seq.op at2 rfl (Op.callF rfl hb_172 (C_store_room (hS.cons) (hW.app.cons.cons.cons)) rfl ?_)
          rintro _ _ ⟨rfl, rfl⟩
          refine Seq.rd0 at3 rfl rfl (O.not rfl) ?_
          refine Seq.nil ?_
          refine hK37 ?_
          refine Cd.cond (!(roomS l ws)) rfl (fun t38 => ?_) (fun t38 => ?_)
          · skip
            refine Cd.seq (fun K39 hK39 => ?_)
            refine Cd.region [0] rfl ?_
            refine Seq.rd0 at0 rfl rfl (O.assign (v := .int .i64 _) rfl) ?_
            refine Seq.nil ?_
            refine hK39 ?_
            refine Cd.ret ?_
            have hap : applyE l s ws = 6 := app6 (by assumption) (by assumption) (by assumption) (anyA_none (p := fun w : Write => hasS (getS l w.key) s) (by omega) hz) (by assumption)
            have hst : StOwn sb l ((sb, .cells #[.map (some mb)] 245 (0, 0)) :: (mb, .map es ck) :: Cs) := ⟨⟨mb, es, ck, Cs, rfl, hm, hC⟩, hsz⟩
            exact hR _ _ (Res.one (v := .int .i64 _) rfl rfl) ⟨by rw [hap], l, _, fun h => absurd (hap.symm.trans h) (by decide), fun _ => rfl, hst, rfl⟩ (.cons _ (.refl _))
          · skip
            refine Cd.skip ?_
            refine hK36 ?_
            refine Cd.seq (fun K40 hK40 => ?_)
            refine Cd.seq (fun K41 hK41 => ?_)
            refine Cd.region [0, 1, 2] rfl ?_
            refine Seq.rd0 at0 rfl rfl (O.move (v := .slice _ _ _) (by exact s17)) ?_
            refine Seq.rd0 at1 rfl rfl (O.lenS ds_25 rfl) ?_
            refine Seq.rd0 at2 rfl rfl (O.move (v := .int .i64 _) rfl) ?_
            refine Seq.nil ?_
            refine hK41 ?_
            refine Cd.block ?_
            have hany : (ws.any fun w => hasS (getS l w.key) s) = false := anyA_none (by omega) hz
            have hrm := roomS_len (by assumption)
            refine Cd.loop (fun m42 e43 L44 => ∃ i : Nat, ∃ l1 : List (Key × CV), ∃ es1 : Array MapEntry, ∃ ck1 : Nat, ∃ Cs1 : List Pt, m42 = ws.length - i ∧ e43 0 = .pointer (some ⟨sb, 0, none⟩) ∧ e43 4 = .pointer (some ⟨b2, 0, none⟩) ∧ e43 42 = .slice av nw cw ∧ e43 43 = .int .i64 (nw : Int) ∧ e43 44 = .int .i64 (i : Int) ∧ L44 = (b2, .cells (Stamp_enc s) 24 (0, 0)) :: (sb, .cells #[.map (some mb)] 245 (0, 0)) :: (mb, .map es1 ck1) :: (Cs1 ++ (L)) ∧ i ≤ ws.length ∧ AppS s l (ws.take i) l1 ∧ MapIs keyV cvV es1 ck1 l1 ∧ ChOwn l1 Cs1 ∧ l1.length ≤ l.length + newN l ws i) _ ⟨0, l, es, ck, Cs, rfl, (by exact s16), (by exact s18), rfl, rfl, rfl, rfl, Nat.zero_le _, by exact .nil, hm, hC, by omega⟩ ?_
            rintro _ e43 _ ⟨i, l1, es1, ck1, Cs1, rfl, s45, s46, s47, s48, s49, rfl, hi2, hA, hm1, hC1, hl1⟩ K50 hK50
            have hnw : newN l ws i ≤ newN l ws ws.length := newN_mono (by omega)
            refine Cd.seq (fun K51 hK51 => ?_)
            refine Cd.region [0] rfl ?_
            refine Seq.rd0 at0 rfl rfl (O.lss (by exact s49) (by exact s48)) ?_
            refine Seq.nil ?_
            refine hK51 ?_
            refine Cd.seq (fun K52 hK52 => ?_)
            refine Cd.if ((i : Int) < (nw : Int)) rfl (fun t53 => ?_) (fun t53 => ?_)
            · skip
              refine Cd.skip ?_
              refine hK52 ?_
              refine Cd.seq (fun K54 hK54 => ?_)
              refine Cd.block ?_
              refine Cd.seq (fun K55 hK55 => ?_)
              refine Cd.region [0, 1, 2, 3] rfl ?_
              have hlt56 : i < ws.length := by omega
              obtain ⟨pre56, sp56, el56, fz56, hav56, hrd56⟩ := hW.at_ hlt56
              refine Seq.rd0 at0 rfl rfl (O.indexG sl_25 (by exact s47) hav56 (by exact s49) (by omega) (by omega)) ?_
              refine Seq.rd1 at1 rfl rfl (O.loadA kd_47 rfl (rowRoomP Write_size (getN hlt56)) (rowAtP Write_size (getN hlt56))) hrd56.app.cons.cons.cons ?_
              refine Seq.op at2 rfl (Op.new rfl (O.alloc zo_47 (cs := (Write_enc Write.zero)) rfl) ?_)
              intro b57 hb57
              refine Seq.op at3 rfl (Op.set0 rfl (O.store kd_47 rfl (v := .agg _) rfl (Write_size _) (Write_room (Write_size _)) (Write_one _) (Write_put _ (Write_size _))) ?_)
              refine Seq.nil ?_
              refine hK55 ?_
              refine Cd.seq (fun K58 hK58 => ?_)
              refine Cd.region [0, 1, 2, 3, 4] rfl ?_
              refine Seq.rd0 at0 rfl rfl (O.move (v := .pointer _) (by exact s45)) ?_
              refine Seq.rd0 at1 rfl rfl (O.field fo_47_0 rfl) ?_
              refine Seq.rd1 at2 rfl rfl (O.loadA kd_45 rfl (Nat.le_of_ble_eq_true rfl) (Write_key _)) Rd.head ?_
              have hSt : StAt c ([(b57, .cells (Write_enc ws[i]) 47 (0, 0)), (b2, .cells (Stamp_enc s) 24 (0, 0)), (sb, .cells #[.map (some mb)] 245 (0, 0)), (mb, .map es1 ck1)] ++ (Cs1 ++ L)) sb l1 := (StOwn.at_ (R := L) (Ls := (sb, _) :: (mb, _) :: Cs1) ⟨⟨mb, es1, ck1, Cs1, rfl, hm1, hC1⟩, by omega⟩).cons.cons
              refine Seq.op at3 rfl (Op.callF rfl hb_170 (C_ofTake (k := ws[i].key) (X := [(b57, _), (b2, _), (sb, _), (mb, _)]) (R := L) hSt hC1) rfl ?_)
              rintro _ _ ⟨cb, G, Cr, rfl, hO, hback, rfl⟩
              refine Seq.rd0 at4 rfl rfl (O.assign (v := .pointer _) rfl) ?_
              refine Seq.nil ?_
              refine hK58 ?_
              refine Cd.seq (fun K59 hK59 => ?_)
              refine Cd.region [0, 1, 2, 3, 4, 5, 6, 7] rfl ?_
              refine Seq.rd0 at0 rfl rfl (O.move (v := .pointer _) rfl) ?_
              refine Seq.rd1 at1 rfl rfl (O.loadA kd_24 (by exact s46) (Nat.le_of_ble_eq_true rfl) (Stamp_all _)) Rd.head.cons.app ?_
              refine Seq.rd0 at2 rfl rfl (O.field fo_47_1 rfl) ?_
              refine Seq.rd1 at3 rfl rfl (O.load kd_9 rfl (Write_val _)) Rd.head.app ?_
              refine Seq.rd0 at4 rfl rfl (O.field fo_47_2 rfl) ?_
              refine Seq.rd1 at5 rfl rfl (O.load kd_4 rfl (Write_gone _)) Rd.head.app ?_
              refine Seq.rd0 at6 rfl rfl (O.build rfl (cs := (Version_enc (⟨s, ws[i].val, ws[i].gone⟩ : Version))) (by kernel_rfl)) ?_
              refine Seq.op at7 rfl (Op.callF rfl hb_173 (C_Put (x := (⟨s, ws[i].val, ws[i].gone⟩ : Version)) hO) rfl ?_)
              rintro _ _ ⟨rfl, G2, hO2, rfl⟩
              obtain ⟨Cs2, hC2, hp2⟩ := hback _ _ hO2
              refine Ent.perm ?_ (perm3 (X := [(b57, _), (b2, _), (sb, _), (mb, _)]) (R := L) hp2)
              refine Seq.nil ?_
              refine hK59 ?_
              refine Cd.draw 8 rfl po ?_
              refine Any.rd0 0 at0 rfl rfl (O.move (v := .pointer _) (by exact s45)) (by kernel_rfl) (by kernel_rfl) (by kernel_rfl) ?_
              refine Any.rd0 1 at1 rfl rfl (O.nilP rfl) (by kernel_rfl) (by kernel_rfl) (by kernel_rfl) ?_
              refine Any.rd0 2 at2 rfl rfl (O.field fo_245_0 rfl) (by kernel_rfl) (by kernel_rfl) (by kernel_rfl) ?_
              refine Any.rd1 3 at3 rfl rfl (O.load kd_243 rfl r1_0) Rd.head.cons.cons (by kernel_rfl) (by kernel_rfl) (by kernel_rfl) ?_
              refine Any.rd0 4 at4 rfl rfl (O.field fo_47_0 rfl) (by kernel_rfl) (by kernel_rfl) (by kernel_rfl) ?_
              refine Any.rd1 5 at5 rfl rfl (O.loadA kd_45 rfl (Nat.le_of_ble_eq_true rfl) (Write_key _)) Rd.head (by kernel_rfl) (by kernel_rfl) (by kernel_rfl) ?_
              refine Any.rd0 6 at6 rfl rfl (O.move (v := .pointer _) rfl) (by kernel_rfl) (by kernel_rfl) (by kernel_rfl) ?_
              refine Any.one 7 at7 rfl (by kernel_rfl) ⟨⟨trivial, Rd.head.cons.cons⟩, Rd.head⟩ ?_
              refine Op.gen rfl (O.mapSet (encV := cvV) (u := (cb, afterPut (getS l1 ws[i].key) (⟨s, ws[i].val, ws[i].gone⟩ : Version))) mp_243 kk_key hm1 rfl (by exact rfl) rfl (A := [(b57, _), (b2, _), (sb, _)]) rfl) ?_
              rintro _ _ ⟨rfl, es2, ck2, hm2, rfl⟩
              refine Any.toK ?_
              refine Any.done (by kernel_rfl) ⟨⟨trivial, Rd.head.cons.cons⟩, Rd.head⟩ ?_
              refine hK54 ?_
              refine Cd.region [0, 1] rfl ?_
              refine Seq.rd0 at0 rfl rfl (O.add (by exact s49) rfl (by omega) (by omega)) ?_
              refine Seq.rd0 at1 rfl rfl (O.move (v := .int .i64 _) rfl) ?_
              refine Seq.nil ?_
              refine Ent.drop ?_
              exact hK50 _ (by omega) ⟨i + 1, _, es2, ck2, Cs2, rfl, (by exact s45), (by exact s46), (by exact s47), (by exact s48), rfl, rfl, by omega, app_next hA hlt56, hm2, hC2, app_len hA hl1 hlt56 _⟩
            · skip
              refine Cd.exit ?_
              refine hK40 ?_
              refine Cd.seq (fun K60 hK60 => ?_)
              refine Cd.region [0] rfl ?_
              refine Seq.rd0 at0 rfl rfl (O.assign (v := .int .i64 _) rfl) ?_
              refine Seq.nil ?_
              refine hK60 ?_
              refine Cd.ret ?_
              have hap : applyE l s ws = 0 := app0 (by assumption) (by assumption) (by assumption) hany (by assumption)
              have hwi : i = ws.length := by omega
              have hst : StOwn sb l1 ((sb, .cells #[.map (some mb)] 245 (0, 0)) :: (mb, .map es1 ck1) :: Cs1) := ⟨⟨mb, es1, ck1, Cs1, rfl, hm1, hC1⟩, by rw [hwi] at hl1; omega⟩
              exact hR _ _ (Res.one (v := .int .i64 _) rfl rfl) ⟨by rw [hap], l1, _, fun _ => by rw [hwi, List.take_length] at hA; exact hA, fun h => absurd hap h, hst, rfl⟩ (.cons _ (.refl _))

theorem C_Apply {c : Cx} {R Ls : List Pt} {sb : Nat} {l : List (Key × CV)} {s : Stamp} {av : Option Addr} {nw cw : Nat} {ws : List Write} (hS : StOwn sb l Ls) (hW : SlAt c R Write_enc av nw ws) :
    Fn Tryz.prog 94 #[.pointer (some ⟨sb, 0, none⟩), .agg (Stamp_enc s), .slice av nw cw] c (Ls ++ R) (fun v L' => v = .int .i64 (applyE l s ws) ∧ ∃ l' Ls', (applyE l s ws = 0 → AppS s l ws l') ∧ (¬ applyE l s ws = 0 → l' = l) ∧ StOwn sb l' Ls' ∧ L' = Ls' ++ R) := by
  obtain ⟨⟨mb, es, ck, Cs, rfl, h1, h2⟩, h3⟩ := hS
  exact C_Apply_own (L := R) h1 h2 h3 hW

end Go.X

namespace Go.X
open Go.Proofs
section
variable {el : List (I64 × EV)} {hl : List (Key × I64)} {ti : I64} {e : Entry} {ws : List Write}
end
/-- an own slice of writes, in front of other blocks -/
def EntsAt (J : List Pt) (el : List (I64 × EV)) : Prop := ∀ id q, alook el id = some q → (∀ (c : Cx) (R : List Pt), SlAt c (J ++ R) Write_enc q.1.ws.a q.1.ws.n q.2) ∧ q.2.length ≤ 16
theorem EntsAt.put {J Ls : List Pt} {el : List (I64 × EV)} {ti : I64} {e : Entry} {ws : List Write} {av : Option Addr} {cap n : Nat} (h : EntsAt J el) (hn : n = ws.length) (h16 : ws.length ≤ 16) (ho : OwnSl 47 18 (rows Write_enc ws) n (.slice av n cap) Ls) :
    EntsAt (Ls ++ J) (aput el ti ({ e with ws := ⟨av, n, cap⟩ }, ws)) := by
  intro id q hq
  by_cases hi : id = ti
  · subst hi
    rw [alook_put_same] at hq
    obtain rfl := Option.some.inj hq
    refine ⟨fun c R => ?_, h16⟩
    rw [List.append_assoc]
    have hlt : n < 4611686018427387904 := by omega
    exact OwnSl.at_ ho hn hlt
  · rw [alook_put_ne _ hi] at hq
    refine ⟨fun c R => ?_, (h id q hq).2⟩
    rw [List.append_assoc]
    exact ((h id q hq).1 c R).app
theorem EntsAt.del {J : List Pt} {el : List (I64 × EV)} {ti : I64} (h : EntsAt J el) (hn : (el.map Prod.fst).Nodup) : EntsAt J (adel el ti) := by
  intro id q hq
  by_cases hi : id = ti
  · subst hi; rw [alook_del_same hn] at hq; cases hq
  · rw [alook_del_ne hi] at hq; exact h id q hq
theorem EntsAt.ent {J : List Pt} {el : List (I64 × EV)} (h : EntsAt J el) (ti : I64) (c : Cx) (R : List Pt) : SlAt c (J ++ R) Write_enc (entT el ti).1.ws.a (entT el ti).1.ws.n (entT el ti).2 := by
  unfold entT
  cases hq : alook el ti with
  | none => exact ⟨rfl, by decide, fun h => absurd rfl h⟩
  | some q => exact (h ti q hq).1 c R

end Go.X

/- PartOver's law: what is over stays over. -/
namespace Go.X
/-- what is over is committed or aborted -/
def Over23 (ol : List (I64 × Int)) : Prop := ∀ q ∈ ol, q.2 = 2 ∨ q.2 = 3
theorem Over23.look {ol : List (I64 × Int)} (h : Over23 ol) {ti : I64} (hs : (alook ol ti).isSome = true) : (alook ol ti).getD 0 = 2 ∨ (alook ol ti).getD 0 = 3 := by
  cases hl : alook ol ti with
  | none => rw [hl] at hs; cases hs
  | some v => exact h _ (alook_mem hl)
theorem aput_mem {K V : Type} [DecidableEq K] {k : K} {v : V} {q : K × V} : ∀ {l : List (K × V)}, q ∈ aput l k v → q = (k, v) ∨ q ∈ l
  | [], h => .inl (by simpa [aput] using h)
  | (y, u) :: l, h => by
    unfold aput at h
    split at h
    · rcases List.mem_cons.1 h with h | h
      · exact .inl h
      · exact .inr (List.mem_cons_of_mem _ h)
    · rcases List.mem_cons.1 h with h | h
      · exact .inr (h ▸ List.mem_cons_self)
      · exact (aput_mem h).imp_right (List.mem_cons_of_mem _)
theorem Over23.put {ol : List (I64 × Int)} (h : Over23 ol) (ti : I64) {v : Int} (hv : v = 2 ∨ v = 3) : Over23 (aput ol ti v) := by
  intro q hq
  rcases aput_mem hq with rfl | hq
  · exact hv
  · exact h q hq
theorem state_none {ol : List (I64 × Int)} {el : List (I64 × EV)} {ti : I64} (h : Over23 ol) : stateP ol el ti = 0 ↔ alook ol ti = none ∧ alook el ti = none := by
  unfold stateP
  cases ho : alook ol ti with
  | some v => have := h _ (alook_mem ho); rcases this with h | h <;> simp at h ⊢ <;> omega
  | none => cases he : alook el ti <;> simp
theorem state_one {ol : List (I64 × Int)} {el : List (I64 × EV)} {ti : I64} (h : Over23 ol) : stateP ol el ti = 1 ↔ alook ol ti = none ∧ (alook el ti).isSome = true := by
  unfold stateP
  cases ho : alook ol ti with
  | some v => have := h _ (alook_mem ho); rcases this with h | h <;> simp at h ⊢ <;> omega
  | none => cases he : alook el ti <;> simp
/-- from was to is -/
def Fine (was is : Int) : Prop := ¬ (2 ≤ was ∧ is ≠ was ∨ was = 1 ∧ is = 0)
end Go.X

namespace Go.X
open Go.Proofs
theorem hb_94 : hasBody Tryz.prog 94 = true := by kernel_rfl
theorem TbOwn.nodup {tb : Nat} {el : List (I64 × EV)} {hl : List (Key × I64)} {Ls : List Pt} (h : TbOwn tb el hl Ls) : (el.map Prod.fst).Nodup ∧ (hl.map Prod.fst).Nodup := by
  obtain ⟨⟨lm, es1, ck1, hm, es2, ck2, J, rfl, h1, h2, h3⟩, h4⟩ := h
  exact ⟨h1.keys, h2.keys⟩
theorem mayP_zero {l : List (Key × CV)} {el : List (I64 × EV)} {hl : List (Key × I64)} {ol : List (I64 × Int)} {ti : I64} {e : Entry} {ws : List Write} (h : mayP l el hl ol ti e ws = 0) :
    stateP ol el ti = 0 ∧ conflictP l hl e.snap ws = false ∧ roomP l el hl ws = true := by
  unfold mayP at h
  split at h
  · cases h
  · split at h
    · cases h
    · split at h
      · cases h
      · split at h
        · cases h
        · exact ⟨by simp_all, by simp_all, by simp_all⟩
theorem add_zero {l : List (Key × CV)} {el : List (I64 × EV)} {hl : List (Key × I64)} {ol : List (I64 × Int)} {ti : I64} {e : Entry} {ws : List Write} (hov : Over23 ol) (hg : goodE e ws = true) (h : mayP l el hl ol ti e ws = 0) : addE el hl ti e ws = 0 := by
  obtain ⟨h1, h2, h3⟩ := mayP_zero h
  obtain ⟨_, he⟩ := (state_none hov).1 h1
  unfold conflictP at h2
  rw [Bool.or_eq_false_iff] at h2
  unfold roomP at h3
  split at h3
  · cases h3
  · rw [decide_eq_true_eq] at h3
    unfold addE
    rw [if_neg (by rw [hg]; decide), if_neg (by rw [he]; decide), if_neg (by rw [h2.1]; decide), if_neg h3.1]
/-- does Commit go on? what does it answer? -/
def goC (l : List (Key × CV)) (ol : List (I64 × Int)) (el : List (I64 × EV)) (ti : I64) (s : Stamp) : Prop := canCommitP l ol el ti s = 0 ∧ ¬ stateP ol el ti = 2
instance (l : List (Key × CV)) (ol : List (I64 × Int)) (el : List (I64 × EV)) (ti : I64) (s : Stamp) : Decidable (goC l ol el ti s) := by unfold goC; infer_instance
def commitE (l : List (Key × CV)) (ol : List (I64 × Int)) (el : List (I64 × EV)) (ti : I64) (s : Stamp) : Int := if goC l ol el ti s then applyE l s (entT el ti).2 else canCommitP l ol el ti s

end Go.X

/- The promise: what is prepared can be committed. Plain. -/
namespace Go.X
/-- an entry is good, its keys are its own, nothing is above its snapshot, there is room -/
structure EntOk (l : List (Key × CV)) (hl : List (Key × I64)) (ti : I64) (q : EV) : Prop where
  good : goodE q.1 q.2 = true
  held : ∀ w ∈ q.2, alook hl w.key = some ti
  snap : ∀ w ∈ q.2, ∀ v ∈ getS l w.key, ¬ 0 < v.stamp.cmp q.1.snap
  room : ∀ w ∈ q.2, (getS l w.key).length < 50
structure Inv (l : List (Key × CV)) (el : List (I64 × EV)) (hl : List (Key × I64)) (ol : List (I64 × Int)) : Prop where
  ln : (l.map Prod.fst).Nodup
  en : (el.map Prod.fst).Nodup
  hn : (hl.map Prod.fst).Nodup
  sorted : ∀ k, Sorted (getS l k)
  over : Over23 ol
  free : ∀ ti q, alook el ti = some q → alook ol ti = none
  ent : ∀ ti q, alook el ti = some q → EntOk l hl ti q
  hold : ∀ k ti, alook hl k = some ti → ∃ q, alook el ti = some q ∧ k ∈ q.2.map (·.key)
  room : (once (l.map Prod.fst ++ hl.map Prod.fst)).length ≤ 200
theorem Inv.nil : Inv [] [] [] [] :=
  ⟨by simp, by simp, by simp, fun k => by simp [getS, alook, Sorted], by intro q hq; simp at hq, by intro ti q h; simp [alook] at h, by intro ti q h; simp [alook] at h, by intro k ti h; simp [alook] at h, by decide⟩
theorem goodE_parts {e : Entry} {ws : List Write} (h : goodE e ws = true) : 1 ≤ e.id ∧ e.snap.good ∧ manyWs ws = true ∧ goodWs ws = true ∧ e.stamp.good ∧ 0 < e.stamp.cmp e.snap := by
  unfold goodE mayE at h
  simp only [Bool.and_eq_true, decide_eq_true_eq] at h
  exact ⟨h.1.1, h.1.2.1, h.1.2.2.1, h.1.2.2.2, h.2.1, h.2.2⟩
theorem goodWs_nodup {ws : List Write} (h : goodWs ws = true) : (ws.map (·.key)).Nodup := by
  unfold goodWs at h
  rw [Bool.and_eq_true, decide_eq_true_eq] at h
  exact h.2
theorem goodWs_mem {ws : List Write} (h : goodWs ws = true) {w : Write} (hw : w ∈ ws) : goodK w.key = true ∧ w.val.size ≤ 200 ∧ ¬ (w.gone = true ∧ ¬ w.val = ⟨#[]⟩) := by
  unfold goodWs at h
  rw [Bool.and_eq_true, List.all_eq_true] at h
  have := h.1 w hw
  unfold goodW at this
  simp only [Bool.and_eq_true, decide_eq_true_eq, Bool.not_eq_true', Bool.and_eq_false_iff, Bool.not_eq_false', decide_eq_false_iff_not] at this
  refine ⟨this.1.1, this.1.2, fun ⟨h1, h2⟩ => ?_⟩
  rcases this.2 with h3 | h3
  · rw [h1] at h3; cases h3
  · exact h2 h3
theorem alook_some_of_mem {K V : Type} [DecidableEq K] {k : K} {l : List (K × V)} (h : k ∈ l.map Prod.fst) : ∃ v, alook l k = some v := by
  cases hl : alook l k with
  | some v => exact ⟨v, rfl⟩
  | none =>
    induction l with
    | nil => simp at h
    | cons q l ih =>
      obtain ⟨y, u⟩ := q
      unfold alook at hl
      split at hl
      · cases hl
      · rename_i hne
        simp only [List.map_cons, List.mem_cons] at h
        rcases h with h | h
        · exact absurd h.symm hne
        · exact ih h hl
theorem mem_of_alook {K V : Type} [DecidableEq K] {k : K} {v : V} {l : List (K × V)} (h : alook l k = some v) : k ∈ l.map Prod.fst := List.mem_map.2 ⟨_, alook_mem h, rfl⟩
theorem once_le {a b : List Key} (h : ∀ k ∈ a, k ∈ b) : (once a).length ≤ (once b).length :=
  nodup_le (once_nodup a) fun k hk => (once_mem k b).2 (h k ((once_mem k a).1 hk))
theorem dropL_look : ∀ {ws : List Write} {hl : List (Key × I64)} (_h : (hl.map Prod.fst).Nodup) (k : Key), alook (dropL hl ws) k = if k ∈ ws.map (·.key) then none else alook hl k
  | [], hl, _, k => by simp [dropL]
  | w :: ws, hl, hn, k => by
    have hn2 : ((adel hl w.key).map Prod.fst).Nodup := ((adel_sub w.key hl).map _).nodup hn
    rw [show dropL hl (w :: ws) = dropL (adel hl w.key) ws from rfl, dropL_look hn2 k, List.map_cons]
    by_cases h1 : k ∈ ws.map (·.key)
    · rw [if_pos h1, if_pos (List.mem_cons_of_mem _ h1)]
    · rw [if_neg h1]
      by_cases h2 : k = w.key
      · subst h2; rw [alook_del_same hn, if_pos List.mem_cons_self]
      · rw [alook_del_ne h2, if_neg (by rw [List.mem_cons, not_or]; exact ⟨h2, h1⟩)]
end Go.X

namespace Go.X
open Go.Proofs

section
variable {P : Program} {e : Env} {d : Option Tmp} {ty : TypeId} {p : String} {af : Array Edge} {g : Option (Nat × Bool)} {x y : Operand}
theorem O.indexT {t : TypeId} {s : ByteArray} {k : IntKind} {i : Int} {b : UInt8} (ht : isDesc P t = 3) (hx : ev e x = .string s) (hy : ev e y = .int k i) (h0 : 0 ≤ i) (hb : s[i.toNat]? = some b) :
    Rn0 P e ⟨d, .index t x y, ty, p, af, g⟩ (.int .u8 (b.toNat : Int)) := fun w => by
  have hu : P.underlying t = some .string := desc_str ht
  simp [execOp, Instr.index, hx, hy, asIntOf, run_under hu, h0, hb]
theorem O.lenTl {t : TypeId} {l : List UInt8} (ht : isDesc P t = 3) (hx : ev e x = .string ⟨l.toArray⟩) :
    Rn0 P e ⟨d, .call { callee := .builtin .len, args := #[x], argTypes := #[t] }, ty, p, af, g⟩ (.int .i64 (l.length : Int)) := by
  have := O.lenT (d := d) (ty := ty) (p := p) (af := af) (g := g) ht hx
  have h2 : (⟨l.toArray⟩ : ByteArray).size = l.length := by show l.toArray.size = _; simp
  rw [h2] at this; exact this
end
theorem bytes_get {l : List UInt8} {i : Nat} (h : i < l.length) : (⟨l.toArray⟩ : ByteArray)[((i : Nat) : Int).toNat]? = some l[i] := by
  rw [Int.toNat_natCast, getElem?_pos (⟨l.toArray⟩ : ByteArray) i (by show i < l.toArray.size; simpa using h)]
  rfl
theorem padK_l {l : List UInt8} (h : l.length ≤ 16) : (padK l).l = l ++ List.replicate (16 - l.length) 0 := by unfold padK; rw [dif_pos h]
theorem padK_put {l : List UInt8} {i : Nat} (hi : i < l.length) (h16 : l.length ≤ 16) : putL (Key_enc (padK (l.take i))) (0 + ((i : Nat) : Int).toNat * 1) [.int .u8 (l[i].toNat : Int)] = Key_enc (padK (l.take (i + 1))) := by
  have h1 : (l.take i).length = i := by rw [List.length_take]; omega
  have h2 : (l.take (i + 1)).length = i + 1 := by rw [List.length_take]; omega
  rw [Key_cells, Key_cells, padK_l (by omega), padK_l (by omega), h1, h2, show 16 - i = (16 - (i + 1)) + 1 by omega, List.replicate_succ, ← List.take_append_getElem hi]
  have := put_mid (cs := ((l.take i ++ 0 :: List.replicate (16 - (i + 1)) 0).map byteV).toArray) (pre := ((l.take i).map byteV).toArray) (mid := #[byteV 0]) (post := ((List.replicate (16 - (i + 1)) (0 : UInt8)).map byteV).toArray) (v := #[byteV l[i]]) (o := 0 + ((i : Nat) : Int).toNat * 1)
    (by simp) rfl (by simp only [List.size_toArray, List.length_map, h1]; omega)
  rw [show ([.int .u8 (l[i].toNat : Int)] : List Value) = (#[byteV l[i]] : Array Value).toList from rfl, this]
  apply Array.ext'
  simp only [Array.toList_append, List.map_append, List.map_cons, List.map_nil, List.append_assoc]
set_option maxRecDepth 100000 in
set_option maxHeartbeats 2000000 in
theorem C_ref_Of {c : Cx} {L : List Pt} {l : List UInt8} (hok : okT l = true) : Fn Tryz.prog 103 #[.string ⟨l.toArray⟩] c L (fun v L' => v = .tuple #[.agg (Key_enc (padK l)), .bool true] ∧ L' = L) := by
  obtain ⟨hne, h16, hz0⟩ : l ≠ [] ∧ l.length ≤ 16 ∧ (0 : UInt8) ∉ l := by unfold okT at hok; exact of_decide_eq_true hok
  have hpos : 0 < l.length := List.length_pos_iff.2 hne
  refine Fn.enter Tryz.func103 rfl 33 rfl rfl (fun R hR => ?_)
  refine Cd.seq (fun K1 hK1 => ?_)
  refine Cd.region [0, 1] rfl ?_
  refine Seq.op at0 rfl (Op.new rfl (O.alloc zo_45 (cs := (Key_enc Key.zero)) rfl) ?_)
  intro b2 hb2
  refine Seq.rd0 at1 rfl rfl (O.assign (v := .bool _) rfl) ?_
  refine Seq.nil ?_
  refine hK1 ?_
  refine Cd.seq (fun K3 hK3 => ?_)
  refine Cd.region [0, 1, 2] rfl ?_
  refine Seq.rd0 at0 rfl rfl (O.build rfl (cs := (Key_enc Key.zero)) (by kernel_rfl)) ?_
  refine Seq.op at1 rfl (Op.new rfl (O.alloc zo_45 (cs := (Key_enc Key.zero)) rfl) ?_)
  intro b4 hb4
  refine Seq.op at2 rfl (Op.set0 rfl (O.store kd_45 rfl (v := .agg _) rfl (Key_size _) (Key_room (Key_size _)) (Key_one _) (Key_put _ (Key_size _))) ?_)
  refine Seq.nil ?_
  refine hK3 ?_
  refine Cd.seq (fun K5 hK5 => ?_)
  refine Cd.seq (fun K6 hK6 => ?_)
  refine Cd.region [0, 1, 2, 3, 4, 5, 6, 7] rfl ?_
  refine Seq.rd0 at0 rfl rfl (O.move (v := .string _) rfl) ?_
  refine Seq.rd0 at1 rfl rfl (O.lenTl ds_9 rfl) ?_
  refine Seq.rd0 at2 rfl rfl (O.lss rfl rfl) ?_
  refine Seq.rd0 at3 rfl rfl (O.move (v := .bool _) rfl) ?_
  have t7 : ¬ ((l.length : Int) < 1) := by omega
  rw [decide_eq_false t7]
  refine Seq.rd0 at4 rfl rfl (O.move (v := .string _) rfl) ?_
  refine Seq.rd0 at5 rfl rfl (O.lenTl ds_9 rfl) ?_
  refine Seq.rd0 at6 rfl rfl (O.gtr rfl rfl) ?_
  refine Seq.rd0 at7 rfl rfl (O.pickF (v := .bool _) rfl rfl) ?_
  refine Seq.nil ?_
  refine hK6 ?_
  refine Cd.if ((16 : Int) < (l.length : Int)) rfl (fun t8 => ?_) (fun t8 => ?_)
  · skip
    omega
  · skip
    refine Cd.skip ?_
    refine hK5 ?_
    refine Cd.seq (fun K9 hK9 => ?_)
    refine Cd.seq (fun K10 hK10 => ?_)
    refine Cd.region [0] rfl ?_
    refine Seq.rd0 at0 rfl rfl (O.assign (v := .int .i64 _) rfl) ?_
    refine Seq.nil ?_
    refine hK10 ?_
    refine Cd.block ?_
    refine Cd.loop (fun m11 e12 L13 => ∃ i : Nat, m11 = l.length - i ∧ e12 0 = .string (⟨l.toArray⟩ : ByteArray) ∧ e12 2 = .pointer (some ⟨b2, 0, none⟩) ∧ e12 4 = .pointer (some ⟨b4, 0, none⟩) ∧ e12 5 = .int .i64 (i : Int) ∧ L13 = (b4, .cells (Key_enc (padK (l.take i))) 45 (0, 0)) :: (b2, .cells (Key_enc Key.zero) 45 (0, 0)) :: L ∧ i ≤ l.length) _ ⟨0, rfl, rfl, rfl, rfl, rfl, rfl, Nat.zero_le _⟩ ?_
    rintro _ e12 _ ⟨i, rfl, s14, s15, s16, s17, rfl, hi⟩ K18 hK18
    refine Cd.seq (fun K19 hK19 => ?_)
    refine Cd.seq (fun K20 hK20 => ?_)
    refine Cd.region [0, 1, 2, 3] rfl ?_
    refine Seq.rd0 at0 rfl rfl (O.move (v := .int .i64 _) (by exact s17)) ?_
    refine Seq.rd0 at1 rfl rfl (O.move (v := .string _) (by exact s14)) ?_
    refine Seq.rd0 at2 rfl rfl (O.lenTl ds_9 rfl) ?_
    refine Seq.rd0 at3 rfl rfl (O.lss rfl rfl) ?_
    refine Seq.nil ?_
    refine hK20 ?_
    refine Cd.if ((i : Int) < (l.length : Int)) rfl (fun t21 => ?_) (fun t21 => ?_)
    · skip
      refine Cd.skip ?_
      refine hK19 ?_
      refine Cd.seq (fun K22 hK22 => ?_)
      refine Cd.block ?_
      refine Cd.seq (fun K23 hK23 => ?_)
      refine Cd.seq (fun K24 hK24 => ?_)
      refine Cd.region [0, 1, 2, 3] rfl ?_
      refine Seq.rd0 at0 rfl rfl (O.move (v := .string _) (by exact s14)) ?_
      refine Seq.rd0 at1 rfl rfl (O.move (v := .int .i64 _) (by exact s17)) ?_
      have hlt24 : i < l.length := by omega
      refine Seq.rd0 at2 rfl rfl (O.indexT ds_9 rfl rfl (by omega) (bytes_get hlt24)) ?_
      refine Seq.rd0 at3 rfl rfl (O.eqI rfl rfl) ?_
      refine Seq.nil ?_
      refine hK24 ?_
      refine Cd.if ((l[i].toNat : Int) = 0) rfl (fun t25 => ?_) (fun t25 => ?_)
      · skip
        exact absurd (show l[i] = 0 from UInt8.toNat_inj.1 (by simpa using t25)) (fun e => hz0 (e ▸ List.getElem_mem _))
      · skip
        refine Cd.skip ?_
        refine hK23 ?_
        refine Cd.region [0, 1, 2, 3, 4, 5] rfl ?_
        refine Seq.rd0 at0 rfl rfl (O.move (v := .int .i64 _) (by exact s17)) ?_
        refine Seq.rd0 at1 rfl rfl (O.move (v := .string _) (by exact s14)) ?_
        refine Seq.rd0 at2 rfl rfl (O.move (v := .int .i64 _) (by exact s17)) ?_
        have hlt30 : i < l.length := by omega
        refine Seq.rd0 at3 rfl rfl (O.indexT ds_9 rfl rfl (by omega) (bytes_get hlt30)) ?_
        refine Seq.rd0 at4 rfl rfl (O.indexA ar_45 (by exact s16) rfl (by omega) (by omega)) ?_
        refine Seq.op at5 rfl (Op.set0 rfl (O.store1 kd_5 rfl (v := .int .u8 _) rfl (by rw [Key_size]; omega) rfl (cs' := Key_enc (padK (l.take (i + 1)))) (padK_put hlt30 (by omega))) ?_)
        refine Seq.nil ?_
        refine hK22 ?_
        refine Cd.region [0, 1, 2] rfl ?_
        refine Seq.rd0 at0 rfl rfl (O.move (v := .int .i64 _) (by exact s17)) ?_
        refine Seq.rd0 at1 rfl rfl (O.add rfl rfl (by omega) (by omega)) ?_
        refine Seq.rd0 at2 rfl rfl (O.assign (v := .int .i64 _) rfl) ?_
        refine Seq.nil ?_
        exact hK18 _ (by omega) ⟨i + 1, rfl, (by exact s14), (by exact s15), (by exact s16), rfl, rfl, by omega⟩
    · skip
      refine Cd.exit ?_
      refine hK9 ?_
      refine Cd.seq (fun K26 hK26 => ?_)
      refine Cd.region [0, 1, 2] rfl ?_
      refine Seq.rd1 at0 rfl rfl (O.loadA kd_45 (by exact s16) (Nat.le_of_ble_eq_true rfl) (Key_all _)) Rd.head ?_
      refine Seq.op at1 rfl (Op.set1 rfl (O.store kd_45 (by exact s15) (v := .agg _) rfl (Key_size _) (Key_room (Key_size _)) (Key_one _) (Key_put _ (Key_size _))) ?_)
      refine Seq.rd0 at2 rfl rfl (O.assign (v := .bool _) rfl) ?_
      refine Seq.nil ?_
      refine hK26 ?_
      refine Cd.ret ?_
      have hil : i = l.length := by omega
      exact hR _ _ (Res.cell2 (v := .bool _) rfl kd_45 (by exact s15) rfl Rd.head.cons rfl) ⟨by rw [hil, List.take_length], rfl⟩ (.cons _ (.cons _ (.refl _)))

end Go.X

namespace Go.X
open Go.Proofs
theorem hb_103 : hasBody Tryz.prog 103 = true := by kernel_rfl
theorem AppS.one {s : Stamp} {l l' : List (Key × CV)} {w : Write} (h : AppS s l [w] l') : ∃ cb, l' = aput l w.key (cb, afterPut (getS l w.key) ⟨s, w.val, w.gone⟩) := by
  generalize hw : [w] = ws at h
  cases h with
  | nil => cases hw
  | snoc h =>
    rename_i ws l1 w' cb
    cases ws with
    | nil =>
      simp only [List.nil_append, List.cons.injEq, and_true] at hw
      subst hw
      generalize hn : ([] : List Write) = ws0 at h
      cases h with
      | nil => exact ⟨cb, rfl⟩
      | snoc h => exact absurd (congrArg List.length hn) (by simp)
    | cons a ws => exact absurd (congrArg List.length hw) (by simp)
theorem SlAt.one {c : Cx} {L : List Pt} {α : Type} {enc : α → Array Value} {b el : Nat} {x : α} (h : Rd c L b (.cells (rows enc [x]) el (0, 0))) : SlAt c L enc (some ⟨b, 0, none⟩) 1 [x] :=
  ⟨rfl, by decide, fun _ => ⟨#[], #[], el, (0, 0), rfl, by show Rd c L b (.cells (#[] ++ (rows enc [x] ++ #[])) el (0, 0)); rw [Array.append_empty, Array.empty_append]; exact h⟩⟩
def kA : Key := padK [97]
def i1 : I64 := ⟨1, by decide⟩
def eA (sv : Sv) : Entry := ⟨1, ⟨0, 0⟩, ⟨5, 0⟩, sv⟩
def wA : Write := ⟨kA, ⟨#[118]⟩, false⟩
end Go.X

namespace Go.X
open Go.Proofs
end Go.X

/- Records, acts: plain. -/
namespace Go.X
structure Record where
  kind : Int
  id : Int
  snap : Stamp
  stamp : Stamp
  ws : Sv
  yes : Bool
  parts : Sv
  deriving DecidableEq
def Record_enc (a : Record) : Array Value := #[.int .i64 a.kind, .int .i64 a.id, .int .i64 a.snap.t, .int .u8 a.snap.n, .int .i64 a.stamp.t, .int .u8 a.stamp.n, .slice a.ws.a a.ws.n a.ws.c, .bool a.yes, .slice a.parts.a a.parts.n a.parts.c]
def Record.zero : Record := ⟨0, 0, .zero, .zero, ⟨none, 0, 0⟩, false, ⟨none, 0, 0⟩⟩
structure Act where
  op : Int
  e : Entry
  at_ : Stamp
  r : Record
  deriving DecidableEq
def Act_enc (a : Act) : Array Value := #[.int .i64 a.op, .int .i64 a.e.id, .int .i64 a.e.snap.t, .int .u8 a.e.snap.n, .int .i64 a.e.stamp.t, .int .u8 a.e.stamp.n, .slice a.e.ws.a a.e.ws.n a.e.ws.c, .int .i64 a.at_.t, .int .u8 a.at_.n, .int .i64 a.r.kind, .int .i64 a.r.id, .int .i64 a.r.snap.t, .int .u8 a.r.snap.n, .int .i64 a.r.stamp.t, .int .u8 a.r.stamp.n, .slice a.r.ws.a a.r.ws.n a.r.ws.c, .bool a.r.yes, .slice a.r.parts.a a.r.parts.n a.r.parts.c]
def Act.zero : Act := ⟨0, .zero, .zero, .zero⟩
end Go.X

namespace Go.X
open Go.Proofs
/-- an act's numbers are numbers; its writes can be read -/
def ActOk (c : Cx) (L : List Pt) (x : Act) : Prop := (Lit.int .i64 x.e.id).wf = true ∧ ∃ ws, SlAt c L Write_enc x.e.ws.a x.e.ws.n ws
section
variable {pb : Nat} {Lp : List Pt} {l : List (Key × CV)} {el : List (I64 × EV)} {hl : List (Key × I64)} {ol : List (I64 × Int)} {ti : I64} {en : Entry} {ws : List Write} {s : Stamp}
end

end Go.X

/- Arguments that are handed in: what they hold, as rows that can be read. -/
namespace Go.X
open Go.ChangeShapes Go.WideShapes Go.Deep
section
variable {H : Type} {en : TypeId × Value → H} {P : Program} {w : World} {base : Nat} {spare : Nat → Bool} {held : Bool}
def fieldAt (P : Program) (t i : Nat) : Option (Nat × Nat) := ((P.fieldsOf t)[i]?).map fun f => (f.type, f.offset)
/-- a datum's parts are not too great -/
def Fits (P : Program) (t : TypeId) (d : DataW H) : Prop := ∀ m ∈ d.weights P t, m ≤ reachBytes
theorem each_mem {m : Nat} : ∀ {ts : List TypeId} {ds : List (DataW H)} {i : Nat} {T : TypeId} {d : DataW H}, ts[i]? = some T → ds[i]? = some d → m ∈ d.weights P T → m ∈ DataW.weightsEach P ts ds
  | t :: ts, d0 :: ds, 0, T, d, ht, hd, hm => by
    obtain rfl : t = T := by simpa using ht
    obtain rfl : d0 = d := by simpa using hd
    simp only [DataW.weightsEach, List.mem_append]
    exact .inl hm
  | t :: ts, d0 :: ds, i + 1, T, d, ht, hd, hm => by
    simp only [DataW.weightsEach, List.mem_append]
    exact .inr (each_mem (by simpa using ht) (by simpa using hd) hm)
theorem all_mem {m : Nat} {e : TypeId} : ∀ {ds : List (DataW H)} {d : DataW H}, d ∈ ds → m ∈ d.weights P e → m ∈ DataW.weightsAll P e ds
  | d0 :: ds, d, hd, hm => by
    simp only [DataW.weightsAll, List.mem_append]
    rcases List.mem_cons.1 hd with rfl | hd
    · exact .inl hm
    · exact .inr (all_mem hd hm)
theorem trod_field {t fuel : Nat} {cs : List Value} {x : DataW H × List MemPlace} (hu : P.underlying t = some (.struct (P.fieldsOf t))) (h : DataW.trod en P w base spare held fuel t cs = some x) (hw : Fits P t x.1) :
    cs.length = P.cellsOf t ∧ ∃ n, ∀ i T o, fieldAt P t i = some (T, o) → ∃ y, DataW.trod en P w base spare held n T ((cs.drop o).take (P.cellsOf T)) = some y ∧ Fits P T y.1 := by
  obtain ⟨xs, n, _, rfl, hl, hx, hf⟩ := DataW.trod_struct hu h
  refine ⟨hl, n, fun i T o hi => ?_⟩
  unfold fieldAt at hi
  cases hfi : (P.fieldsOf t)[i]? with
  | none => rw [hfi] at hi; cases hi
  | some f =>
    rw [hfi] at hi
    simp only [Option.map_some, Option.some.injEq, Prod.mk.injEq] at hi
    obtain ⟨rfl, rfl⟩ := hi
    have hlt : i < xs.length := by rw [hx]; exact (Array.getElem?_eq_some_iff.1 hfi).1
    refine ⟨xs[i], (hf i f hfi).trans (List.getElem?_eq_getElem hlt), fun m hm => hw m ?_⟩
    simp only [DataW.weights, hu]
    exact each_mem (i := i) (by simp [hfi]) (by simp [List.getElem?_eq_getElem hlt]) hm
theorem split_at {α : Type} (cs : List α) (a : Nat) {b n : Nat} (hn : n = a + b) : (cs.drop a).take b ++ (cs.drop n) = cs.drop a := by
  subst hn
  rw [← List.drop_drop]; exact List.take_append_drop b _
/-- a key's cells -/
theorem dec_Key {t e fuel : Nat} {cs : List Value} {x : DataW H × List MemPlace} (ht : P.underlying t = some (.array 16 e)) (he : P.underlying e = some (.int .u8)) (hC : P.cellsOf t = 16) (hc : P.cellsOf e = 1)
    (h : DataW.trod en P w base spare held fuel t cs = some x) : ∃ k : Key, cs = (Key_enc k).toList := by
  obtain ⟨xs, m, _, _, hl, hn, hf⟩ := DataW.trod_array ht h
  rw [hC] at hl
  have hcell : ∀ i, i < 16 → ∃ b : UInt8, cs[i]? = some (byteV b) := by
    intro i hi
    have h1 := hf i hi
    rw [hc, Nat.mul_one, List.getElem?_eq_getElem (by omega)] at h1
    obtain ⟨v, hv, _, hw⟩ := DataW.trod_int he h1
    simp only [Lit.wf, IntKind.min, IntKind.max, IntKind.signed, IntKind.bits, Bool.and_eq_true, decide_eq_true_eq] at hw
    have h2 : cs[i]? = some (.int .u8 v) := by
      have := congrArg (fun l => l[0]?) hv
      simpa [List.getElem?_take, List.getElem?_drop] using this
    have h3 : 0 ≤ v := by simpa using hw.1
    have h4 : v < 256 := by have := hw.2; simp at this; omega
    refine ⟨UInt8.ofNat v.toNat, ?_⟩
    rw [h2, byteV]
    have : (UInt8.ofNat v.toNat).toNat = v.toNat := by rw [UInt8.toNat_ofNat']; omega
    rw [this, Int.toNat_of_nonneg h3]
  have hall : ∃ l : List UInt8, l.length = 16 ∧ cs = l.map byteV := by
    have key : ∀ k, k ≤ 16 → ∃ l : List UInt8, l.length = k ∧ cs.take k = l.map byteV := by
      intro k
      induction k with
      | zero => intro _; exact ⟨[], rfl, by simp⟩
      | succ k ih =>
        intro hk
        obtain ⟨l, h1, h2⟩ := ih (by omega)
        obtain ⟨b, hb⟩ := hcell k (by omega)
        exact ⟨l ++ [b], by simp [h1], by rw [List.take_add_one, h2, hb]; simp⟩
    obtain ⟨l, h1, h2⟩ := key 16 (Nat.le_refl _)
    exact ⟨l, h1, by rw [← h2, List.take_of_length_le (by omega)]⟩
  obtain ⟨l, h1, h2⟩ := hall
  exact ⟨⟨l, h1⟩, by rw [h2, Key_cells]⟩
theorem dec_int {t fuel : Nat} {k : IntKind} {cs : List Value} {x : DataW H × List MemPlace} (ht : P.underlying t = some (.int k)) (h : DataW.trod en P w base spare held fuel t cs = some x) :
    ∃ n, cs = [.int k n] ∧ (Lit.int k n).wf = true := by
  obtain ⟨n, h1, _, h2⟩ := DataW.trod_int ht h
  exact ⟨n, h1, h2⟩
theorem dec_bool {t fuel : Nat} {cs : List Value} {x : DataW H × List MemPlace} (ht : P.underlying t = some .bool) (h : DataW.trod en P w base spare held fuel t cs = some x) : ∃ b, cs = [.bool b] := by
  obtain ⟨n, h1, _⟩ := DataW.trod_bool ht h
  exact ⟨n, h1⟩
theorem dec_str {t fuel : Nat} {cs : List Value} {x : DataW H × List MemPlace} (ht : P.underlying t = some .string) (h : DataW.trod en P w base spare held fuel t cs = some x) : ∃ b : ByteArray, cs = [.string b] ∧ b.size ≤ maxLen := by
  obtain ⟨n, h1, _, h2⟩ := DataW.trod_string ht h
  exact ⟨n, h1, h2⟩
/-- a slice that was handed in can be read, as long as nothing outside is written -/
def Given {α : Type} (w : World) (enc : α → Array Value) (av : Option Addr) (n : Nat) (xs : List α) : Prop :=
  ∀ (c : Cx) (L : List Pt), c.w0 = w → (∀ b, ¬ c.F b) → SlAt c L enc av n xs
theorem list_of {α : Type} {Q : Nat → α → Prop} : ∀ (n : Nat), (∀ i, i < n → ∃ x, Q i x) → ∃ xs : List α, xs.length = n ∧ ∀ i x, xs[i]? = some x → Q i x
  | 0, _ => ⟨[], rfl, by simp⟩
  | n + 1, h => by
    obtain ⟨xs, h1, h2⟩ := list_of n (fun i hi => h i (by omega))
    obtain ⟨x, hx⟩ := h n (by omega)
    refine ⟨xs ++ [x], by simp [h1], fun i y hy => ?_⟩
    rw [List.getElem?_append] at hy
    split at hy
    · exact h2 i y hy
    · rename_i hi
      have : i = n := by
        rcases Nat.lt_or_ge (i - xs.length) 1 with h3 | h3
        · omega
        · rw [List.getElem?_eq_none (by simpa using h3)] at hy; cases hy
      subst this
      rw [h1, Nat.sub_self] at hy
      simp at hy; subst hy; exact hx
theorem dec_slice {α : Type} {enc : α → Array Value} {sz : Nat} {Q : α → Prop} {t e fuel : Nat} {cs : List Value} {x : DataW H × List MemPlace} (hs : ∀ x, (enc x).size = sz) (h0 : 0 < sz)
    (ht : P.underlying t = some (.slice e)) (hC : P.cellsOf e = sz) (hb1 : 1 ≤ P.bytesOf e) (dec : ∀ n cs' y, DataW.trod en P w base spare held n e cs' = some y → Fits P e y.1 → ∃ x, cs' = (enc x).toList ∧ Q x)
    (h : DataW.trod en P w base spare held fuel t cs = some x) (hw : Fits P t x.1) : ∃ av n cap xs, cs = [.slice av n cap] ∧ Given w enc av n xs ∧ ∀ x ∈ xs, Q x := by
  rcases open_slice ht h with ⟨rfl, _⟩ | ⟨a, len, cap, m, n, D, Pl, rfl, hb, hl, hm, hmm, rfl, hi⟩
  · exact ⟨none, 0, 0, [], rfl, fun c L _ _ => ⟨rfl, by decide, fun h => absurd rfl h⟩, by simp⟩
  · have hle : len ≤ m := by rw [hmm]; split <;> omega
    obtain ⟨xs, h1, h2⟩ := list_of (Q := fun i (x : α) => w.cells? base (a.add (i * sz)) sz = some (enc x).toList ∧ Q x) len (fun i hi' => by
      obtain ⟨cs', h3, h4⟩ := hi i (by omega)
      obtain ⟨x, rfl, hq⟩ := dec n cs' _ h4 (fun q hq => hw q (by
        simp only [DataW.weights, ht, List.mem_cons, List.mem_append]
        exact .inr (.inl (all_mem (List.mem_map.2 ⟨i, List.mem_range.2 hi', rfl⟩) hq))))
      rw [hC] at h3
      exact ⟨x, h3, hq⟩)
    refine ⟨some a, len, cap, xs, rfl, ?_, fun x hx => ?_⟩
    · intro c L hc hF
      have hcap : len < 4611686018427387904 := by
        have h5 := hw ((((List.range len).map D).length + ((List.range (m - len)).map fun j => D (len + j)).length) * P.bytesOf e) (by simp only [DataW.weights, ht, List.mem_cons]; exact .inl trivial)
        have h6 : len * 1 ≤ (((List.range len).map D).length + ((List.range (m - len)).map fun j => D (len + j)).length) * P.bytesOf e := Nat.mul_le_mul (by simp) hb1
        have h7 : reachBytes = 140737488351232 := rfl
        omega
      refine ⟨h1.symm, hcap, fun hn => ?_⟩
      have hpos : 0 < xs.length := List.length_pos_iff.2 hn
      have hat : ∀ i k, i < len → k < sz → ∀ x, xs[i]? = some x → w.cell? (a.add (i * sz + k)) = (enc x)[k]? := by
        intro i k hi' hk x hx
        obtain ⟨h3, _⟩ := h2 i x hx
        obtain ⟨_, _, h4⟩ := World.cells?_some h3
        have := h4 k hk
        rw [Go.Deep.add_add] at this
        rw [this]; simp
      have hx0 : xs[0]? = some xs[0] := List.getElem?_eq_getElem hpos
      have h00 := hat 0 0 (by omega) h0 _ hx0
      rw [Nat.zero_mul] at h00
      have e0 : a.add (0 + 0) = a := rfl
      rw [e0, Array.getElem?_eq_getElem (by rw [hs]; exact h0)] at h00
      unfold World.cell? at h00
      cases hob : w.heap[a.block]? with
      | none => rw [hob] at h00; cases h00
      | some ob =>
        rw [hob] at h00
        cases ob with
        | cells c2 el fz =>
          simp only at h00
          have hsp : a.spot = none := by
            cases hsp : a.spot with
            | none => rfl
            | some s => rw [hsp] at h00; simp at h00
          have hcell : ∀ j, w.cell? (a.add j) = c2[a.off + j]? := by
            intro j
            unfold World.cell? Addr.add
            by_cases hj : j = 0
            · subst hj; simp [hob, hsp]
            · simp [hj, hob]
          have hlast : a.off + len * sz ≤ c2.size := by
            have hi' : len - 1 < xs.length := by omega
            have h3 := hat (len - 1) (sz - 1) (by omega) (by omega) _ (List.getElem?_eq_getElem hi')
            have hlt2 : sz - 1 < (enc (xs[len - 1]'hi')).size := by rw [hs]; omega
            rw [hcell, Array.getElem?_eq_getElem hlt2] at h3
            have h4 := (Array.getElem?_eq_some_iff.1 h3).1
            have h5 : (len - 1) * sz + (sz - 1) + 1 = len * sz := by
              obtain ⟨q, rfl⟩ : ∃ q, len = q + 1 := ⟨len - 1, by omega⟩
              rw [Nat.add_sub_cancel, Nat.succ_mul]; omega
            omega
          have hrs := rows_size hs xs
          rw [h1] at hrs
          refine ⟨c2.extract 0 a.off, c2.extract (a.off + len * sz) c2.size, el, fz, ?_, ?_⟩
          · have : (c2.extract 0 a.off).size = a.off := by simp; omega
            rw [this]
            cases a
            simp only at hsp
            subst hsp
            rfl
          · have hcs : c2 = c2.extract 0 a.off ++ (rows enc xs ++ c2.extract (a.off + len * sz) c2.size) := by
              apply Array.ext_getElem?
              intro j
              have hpre : (c2.extract 0 a.off).size = a.off := by simp; omega
              rcases Nat.lt_or_ge j a.off with hj | hj
              · rw [Array.getElem?_append_left (by omega), Array.getElem?_extract]
                simp; omega
              · rw [Array.getElem?_append_right (by omega), hpre]
                rcases Nat.lt_or_ge (j - a.off) (len * sz) with hj2 | hj2
                · have hq : (j - a.off) / sz < len := by rw [Nat.div_lt_iff_lt_mul h0]; exact hj2
                  have hr : (j - a.off) % sz < sz := Nat.mod_lt _ h0
                  have hqx : (j - a.off) / sz < xs.length := by omega
                  have hd : (j - a.off) / sz * sz + (j - a.off) % sz = j - a.off := by rw [Nat.mul_comm]; exact Nat.div_add_mod _ _
                  have h3 := hat _ _ hq hr _ (List.getElem?_eq_getElem hqx)
                  have h4 := rows_get hs (sp := c2.extract (a.off + len * sz) c2.size) (List.getElem?_eq_getElem hqx) ((j - a.off) % sz) hr
                  rw [hcell, hd] at h3
                  rw [hd] at h4
                  rw [h4, ← h3, show a.off + (j - a.off) = j by omega]
                · rw [Array.getElem?_append_right (by omega), hrs, Array.getElem?_extract]
                  rw [show a.off + len * sz + (j - a.off - len * sz) = j by omega]
                  rcases Nat.lt_or_ge j c2.size with hj3 | hj3
                  · simp; omega
                  · rw [Array.getElem?_eq_none hj3]; simp
            have hb2 : w.heap[a.block]? = some (.cells (c2.extract 0 a.off ++ (rows enc xs ++ c2.extract (a.off + len * sz) c2.size)) el fz) := by rw [← hcs]; exact hob
            exact Rd.old (by rw [hc]; exact hb2) (hF _)
        | _ => cases h00
    · obtain ⟨i, hi', rfl⟩ := List.getElem_of_mem hx
      exact (h2 i _ (List.getElem?_eq_getElem hi')).2
end
end Go.X

namespace Go.X
open Go.Proofs

open Go.ChangeShapes Go.WideShapes Go.Deep Go.RowKit
/-- a write's row is handed in -/
def wsIn (w : World) (v : Sv) : Prop := ∃ ws : List Write, Given w Write_enc v.a v.n ws

theorem decWrite {H : Type} {en : TypeId × Value → H} {w : World} {base : Nat} {spare : Nat → Bool} {held : Bool} {n : Nat} {cs : List Value} {y : DataW H × List MemPlace} (h : DataW.trod en Tryz.prog w base spare held n 47 cs = some y) (hw : Fits Tryz.prog 47 y.1) : ∃ x : Write, cs = (Write_enc x).toList ∧ True := by
  obtain ⟨hl, n1, hf⟩ := trod_field (by kernel_rfl) h hw
  rw [(by kernel_rfl : Tryz.prog.cellsOf 47 = 18)] at hl
  obtain ⟨y0, h0, w0⟩ := hf 0 45 0 (by kernel_rfl)
  rw [(by kernel_rfl : Tryz.prog.cellsOf 45 = 16)] at h0
  obtain ⟨x0, e0⟩ := dec_Key (e := 5) (by kernel_rfl) (by kernel_rfl) (by kernel_rfl) (by kernel_rfl) h0
  obtain ⟨y1, h1, w1⟩ := hf 1 9 16 (by kernel_rfl)
  rw [(by kernel_rfl : Tryz.prog.cellsOf 9 = 1)] at h1
  obtain ⟨x1, e1, q1⟩ := dec_str (by kernel_rfl) h1
  obtain ⟨y2, h2, w2⟩ := hf 2 4 17 (by kernel_rfl)
  rw [(by kernel_rfl : Tryz.prog.cellsOf 4 = 1)] at h2
  obtain ⟨x2, e2⟩ := dec_bool (by kernel_rfl) h2
  have k0 := split_at cs 0 (b := 16) (n := 16) rfl
  rw [e0] at k0
  have k1 := split_at cs 16 (b := 1) (n := 17) rfl
  rw [e1] at k1
  have k2 := split_at cs 17 (b := 1) (n := 18) rfl
  rw [e2] at k2
  rw [List.drop_eq_nil_of_le (by omega : cs.length ≤ 18)] at k2
  rw [← k2] at k1
  rw [← k1] at k0
  refine ⟨⟨x0, x1, x2⟩, ?_, trivial⟩
  show cs.drop 0 = _; rw [← k0]; rfl

/-- a slice argument is a slice -/
theorem okWide_slice {P : Program} {W : World} {r : Reach} {b0 : Nat} {t e : TypeId} {v : Value} (ht : P.underlying t = some (.slice e)) (h : Value.okWide P W r b0 t v) : ∃ av m cap, v = .slice av m cap := by
  unfold Value.okWide at h
  rw [ht] at h
  simp only at h
  unfold Cell.okWide at h
  rw [ht] at h
  simp only at h
  unfold Cell.ok at h
  rw [ht] at h
  cases v <;> simp at h
  exact ⟨_, _, _, rfl⟩
theorem st_nil (W : World) : St ⟨W, fun _ => False⟩ [] W := ⟨Mod.refl _ _, by simp, by simp, by simp⟩
theorem Mod.below {W W' : World} (h : Mod (fun _ => False) W W') : Below W.heap.size W W' := ⟨h.os, h.tape, h.output, h.size, fun k hk => h.block k hk (fun h => h)⟩
/-- the row's conclusion, where old memory is as it was -/
theorem post_below {H : Type} {enc : TypeId × Value → H} {P : Program} {f : Func} {s : ChangeSpec} {apart fresh handsOn again : Bool} {W W' : World} {args : Array Value} {v : Value} {ds gs : List (DataW H)} {before pa pv : List MemPlace}
    (hW : DataW.Whole enc P f.params.toList s.vars apart W args.toList ds gs before) (hb : Below W.heap.size W W')
    (hres : ∀ (b : Nat) (sp : Nat → Bool) (hd : Bool), DataW.TrodAll enc P W' b sp hd f.resultTypes.toList (v.resultList f.resultTypes.size) (s.fn H (ds ++ gs)).results [])
    (hargs : ∀ sp : Nat → Bool, (∀ p ∈ before, sp p.block = true) → DataW.TrodAll enc P W' 0 sp true f.params.toList args.toList (s.fn H (ds ++ gs)).args pa)
    (hvars : ∀ sp : Nat → Bool, (∀ p ∈ before, sp p.block = true) → DataW.TrodVars enc P W' sp s.vars (s.fn H (ds ++ gs)).vars pv)
    (hps : before = pa ++ pv)
    (hok : ∀ (j : Nat) (t : TypeId) (r : Value), f.resultTypes[j]? = some t → (v.resultList f.resultTypes.size)[j]? = some r → Value.okWide P W' .any 0 t r) :
    s.post enc P f apart fresh handsOn again W args v W' := by
  have hold : ∀ p ∈ before, (fun b => decide (b < W.heap.size)) p.block = true := fun p hp => by simpa using hW.lt p hp
  have hlt := hW.lt
  refine ⟨ds, gs, before, [], pa, pv, hW, hres _ _ _, hargs _ hold, hvars _ hold, hb.frame _, fun _ => ?_⟩
  obtain ⟨_, _, _, _, _, hz, hn⟩ := hW
  refine ⟨hok, _, _, ([] ++ pa) ++ pv, ⟨[] ++ pa, pv, trodAll_append (hargs _ (fun _ _ => rfl)) (hres _ _ _), hvars _ (fun _ _ => rfl), rfl, ?_, ?_⟩, ?_⟩
  · intro b off hp
    have hp' : MemPlace.cell b off ∈ before := by rw [hps]; simpa using hp
    rw [hb.frozen (by exact hlt _ hp')]
    exact hz b off hp'
  · intro ha
    have := hn ha
    rw [hps] at this
    simpa using this
  · intro p hp _
    rw [hps]
    simpa using hp
/-- an argument reads behind the call as it did -/
theorem trod_below {H : Type} {enc : TypeId × Value → H} {t : TypeId} (hr : Tryz.prog.readableRec t = true) (hrow : t < Tryz.prog.types.size) {W W' : World} {v : Value} {d : DataW H} {ps : List MemPlace}
    (h : DataW.Trod enc Tryz.prog W 0 (fun _ => true) true t v d ps) (hb : Below W.heap.size W W') (hlt : ∀ x ∈ ps, x.block < W.heap.size) {sp : Nat → Bool} (hsp : ∀ x ∈ ps, sp x.block = true) :
    DataW.Trod enc Tryz.prog W' 0 sp true t v d ps := WideElems.Trod_stays laid_all hr hrow h (fun x hx => hb.same (hlt x hx)) hsp

end Go.X
