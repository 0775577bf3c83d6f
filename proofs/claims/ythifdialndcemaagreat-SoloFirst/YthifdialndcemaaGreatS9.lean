/- Part 9 of the proofs over this program: what its functions compute. -/
import Derived.Test.YthifdialndcemaaGreatProg
import Derived.Test.YthifdialndcemaaGreatS8
set_option linter.unusedVariables false
set_option linter.unusedSimpArgs false

namespace Go.X
open Go.Proofs
theorem hb_50 : hasBody Tryz.prog 50 = true := by kernel_rfl
theorem hb_52 : hasBody Tryz.prog 52 = true := by kernel_rfl
theorem hb_55 : hasBody Tryz.prog 55 = true := by kernel_rfl
theorem comW_t {x y : Write} (h1 : x.key = y.key) (h2 : (x.val.size : Int) ≤ 200) (h3 : (y.val.size : Int) ≤ 200) (h4 : x.gone = false ∨ x.val = ⟨#[]⟩) (h5 : y.gone = false ∨ y.val = ⟨#[]⟩) (h6 : goodK x.key = true) : comW x y = true := by
  unfold comW
  rw [decide_eq_true h1, goodW_of h6 (by omega) h4, goodW_of (h1 ▸ h6) (by omega) h5]; rfl
theorem comW_1 {x y : Write} (h : ¬ x.key = y.key) : comW x y = false := by unfold comW; rw [decide_eq_false h]; rfl
theorem comW_2 {x y : Write} (h : ¬ (x.val.size : Int) ≤ 200) : comW x y = false := by unfold comW; rw [badW2 (by omega)]; simp
theorem comW_3 {x y : Write} (h : ¬ (y.val.size : Int) ≤ 200) : comW x y = false := by unfold comW; rw [badW2 (w := y) (by omega)]; simp
theorem comW_4 {x y : Write} (h : x.gone = true) (h2 : ¬ x.val = ⟨#[]⟩) : comW x y = false := by unfold comW; rw [badW3 h h2]; simp
theorem comW_5 {x y : Write} (h : y.gone = true) (h2 : ¬ y.val = ⟨#[]⟩) : comW x y = false := by unfold comW; rw [badW3 (w := y) h h2]; simp
theorem comW_6 {x y : Write} (h : goodK x.key = false) : comW x y = false := by unfold comW; rw [badW1 h]; simp
theorem takeP_next {α : Type} {P : α → Prop} {xs : List α} {i : Nat} (hi : i < xs.length) (h : ∀ x ∈ xs.take i, P x) (hx : P xs[i]) : ∀ x ∈ xs.take (i + 1), P x := by
  intro x hm
  rw [← List.take_append_getElem hi, List.mem_append, List.mem_singleton] at hm
  rcases hm with hm | rfl
  · exact h x hm
  · exact hx
theorem afterS_at {xl : List (I64 × TX)} {ti : I64} {q : TX} {x : Write} (h : alook xl ti = some q) : alook (afterS xl ti x) ti = some (q.1, (q.2.1, afterX q.2.2 x)) := by
  unfold afterS; rw [h]; exact alook_put_same _ _ _
theorem afterS_ne {xl : List (I64 × TX)} {ti tj : I64} {x : Write} (h : tj ≠ ti) : alook (afterS xl ti x) tj = alook xl tj := by
  unfold afterS; split
  · rfl
  · exact alook_put_ne _ h _

set_option maxRecDepth 100000 in
set_option maxHeartbeats 2000000 in
theorem C_SoloFirst {c : Cx} {L : List Pt} {av : Option Addr} {nx cx : Nat} {xs : List SAct} (hX : SlAt c L SAct_enc av nx xs) (hQ : ∀ x ∈ xs, (Lit.int .i64 x.id).wf = true) {au aw : Option Addr} {nu cu nv cv : Nat} {us vs : List Write} (hU : SlAt c L Write_enc au nu us) (hV : SlAt c L Write_enc aw nv vs) : Fn Tryz.prog 8 #[.slice av nx cx, .slice au nu cu, .slice aw nv cv] c L (fun v L' => v = .bool true ∧ L' = L) := by
  have hwl := hX.len
  have hwt := hX.lt
  have hul := hU.len
  have hut := hU.lt
  have hvl := hV.len
  have hvt := hV.lt
  refine Fn.enter Tryz.func8 rfl 185 rfl rfl (fun R hR => ?_)
  refine Cd.seq (fun K1 hK1 => ?_)
  refine Cd.region [0] rfl ?_
  refine Seq.rd0 at0 rfl rfl (O.assign (v := .bool _) rfl) ?_
  refine Seq.nil ?_
  refine hK1 ?_
  refine Cd.seq (fun K2 hK2 => ?_)
  refine Cd.seq (fun K3 hK3 => ?_)
  refine Cd.region [0, 1] rfl ?_
  refine Seq.op at0 rfl (Op.callF rfl hb_50 C_awake23 rfl ?_)
  rintro _ L9 ⟨rfl, h9⟩
  rw [h9]
  refine Seq.rd0 at1 rfl rfl (O.not rfl) ?_
  refine Seq.nil ?_
  refine hK3 ?_
  refine Cd.condF rfl ?_
  refine Cd.skip ?_
  refine hK2 ?_
  refine Cd.seq (fun K4 hK4 => ?_)
  refine Cd.seq (fun K5 hK5 => ?_)
  refine Cd.region [0, 1, 2, 3, 4, 5, 6, 7, 8, 9, 10, 11, 12] rfl ?_
  refine Seq.rd0 at0 rfl rfl (O.move (v := .slice _ _ _) rfl) ?_
  refine Seq.rd0 at1 rfl rfl (O.lenS ds_96 rfl) ?_
  refine Seq.rd0 at2 rfl rfl (O.gtr rfl rfl) ?_
  refine Seq.rd0 at3 rfl rfl (O.move (v := .bool _) rfl) ?_
  by_cases t6 : (30 : Int) < (nx : Int)
  · rw [decide_eq_true t6]
    refine Seq.pass at4 rfl rfl ?_
    refine Seq.pass at5 rfl rfl ?_
    refine Seq.pass at6 rfl rfl ?_
    refine Seq.rd0 at7 rfl rfl (O.pickT (v := .bool _) rfl rfl) ?_
    refine Seq.rd0 at8 rfl rfl (O.move (v := .bool _) rfl) ?_
    refine Seq.pass at9 rfl rfl ?_
    refine Seq.pass at10 rfl rfl ?_
    refine Seq.pass at11 rfl rfl ?_
    refine Seq.rd0 at12 rfl rfl (O.pickT (v := .bool _) rfl rfl) ?_
    refine Seq.nil ?_
    refine hK5 ?_
    refine Cd.condT rfl ?_
    refine Cd.seq (fun K7 hK7 => ?_)
    refine Cd.region [0] rfl ?_
    refine Seq.rd0 at0 rfl rfl (O.assign (v := .bool _) rfl) ?_
    refine Seq.nil ?_
    refine hK7 ?_
    refine Cd.ret ?_
    exact hR _ L (Res.one (v := .bool _) rfl rfl) ⟨rfl, rfl⟩ (.refl _)
  · rw [decide_eq_false t6]
    refine Seq.rd0 at4 rfl rfl (O.move (v := .slice _ _ _) rfl) ?_
    refine Seq.rd0 at5 rfl rfl (O.lenS ds_25 rfl) ?_
    refine Seq.rd0 at6 rfl rfl (O.gtr rfl rfl) ?_
    refine Seq.rd0 at7 rfl rfl (O.pickF (v := .bool _) rfl rfl) ?_
    refine Seq.rd0 at8 rfl rfl (O.move (v := .bool _) rfl) ?_
    by_cases t8 : (10 : Int) < (nu : Int)
    · rw [decide_eq_true t8]
      refine Seq.pass at9 rfl rfl ?_
      refine Seq.pass at10 rfl rfl ?_
      refine Seq.pass at11 rfl rfl ?_
      refine Seq.rd0 at12 rfl rfl (O.pickT (v := .bool _) rfl rfl) ?_
      refine Seq.nil ?_
      refine hK5 ?_
      refine Cd.condT rfl ?_
      refine Cd.seq (fun K9 hK9 => ?_)
      refine Cd.region [0] rfl ?_
      refine Seq.rd0 at0 rfl rfl (O.assign (v := .bool _) rfl) ?_
      refine Seq.nil ?_
      refine hK9 ?_
      refine Cd.ret ?_
      exact hR _ L (Res.one (v := .bool _) rfl rfl) ⟨rfl, rfl⟩ (.refl _)
    · rw [decide_eq_false t8]
      refine Seq.rd0 at9 rfl rfl (O.move (v := .slice _ _ _) rfl) ?_
      refine Seq.rd0 at10 rfl rfl (O.lenS ds_25 rfl) ?_
      refine Seq.rd0 at11 rfl rfl (O.gtr rfl rfl) ?_
      refine Seq.rd0 at12 rfl rfl (O.pickF (v := .bool _) rfl rfl) ?_
      refine Seq.nil ?_
      refine hK5 ?_
      refine Cd.if ((10 : Int) < (nv : Int)) rfl (fun t10 => ?_) (fun t10 => ?_)
      · skip
        refine Cd.seq (fun K11 hK11 => ?_)
        refine Cd.region [0] rfl ?_
        refine Seq.rd0 at0 rfl rfl (O.assign (v := .bool _) rfl) ?_
        refine Seq.nil ?_
        refine hK11 ?_
        refine Cd.ret ?_
        exact hR _ L (Res.one (v := .bool _) rfl rfl) ⟨rfl, rfl⟩ (.refl _)
      · skip
        refine Cd.skip ?_
        refine hK4 ?_
        refine Cd.seq (fun K12 hK12 => ?_)
        refine Cd.region [0, 1] rfl ?_
        refine Seq.op at0 rfl (Op.callF rfl hb_51 C_solo_New2 rfl ?_)
        rintro _ _ ⟨p, Ls0, rfl, hS0, rfl⟩
        refine Seq.rd0 at1 rfl rfl (O.assign (v := .pointer _) rfl) ?_
        refine Seq.nil ?_
        refine hK12 ?_
        refine Cd.seq (fun K13 hK13 => ?_)
        refine Cd.region [0, 1, 2] rfl ?_
        refine Seq.rd0 at0 rfl rfl (O.move (v := .pointer _) rfl) ?_
        refine Seq.rd0 at1 rfl rfl (O.move (v := .slice _ _ _) rfl) ?_
        refine Seq.op at2 rfl (Op.callF rfl hb_52 (Fn.perm (C_play (L := ([]) ++ L) (N := 50) (nt := 0) hS0 hX hQ (by omega) (by simp) (by omega) (by omega)) (bring (pre := ([])) (Ls := Ls0) (R := L))) rfl ?_)
        rintro _ _ ⟨l1, xl1, bg1, la1, Ls1, hS1, hM, hx1, hb1, ha1, rfl⟩
        have hI := hM.inv SInv.new
        have hnum := hS1.num
        have hib : (Lit.int .i64 (bg1 + 1)).wf = true := wfI (by omega) (by omega)
        have hib2 : (Lit.int .i64 (bg1 + 1 + 1)).wf = true := wfI (by omega) (by omega)
        refine Ent.perm ?_ (bring (Ls := Ls1) (pre := ([])) (R := L)).symm
        refine Seq.nil ?_
        refine hK13 ?_
        refine Cd.seq (fun K14 hK14 => ?_)
        refine Cd.region [0, 1, 2, 3, 4, 5, 6] rfl ?_
        refine Seq.rd0 at0 rfl rfl (O.move (v := .pointer _) rfl) ?_
        refine Seq.op at1 rfl (Op.callF rfl hb_53 (Fn.perm (C_So_Begin (R := ([]) ++ L) (ti := ⟨bg1 + 1, hib⟩) hS1 rfl (by omega) (by omega)) (bring (pre := ([])) (Ls := Ls1) (R := L))) rfl ?_)
        rintro _ _ ⟨rfl, xa, LsA, hSA, rfl⟩
        have hxa := aput_le (⟨bg1 + 1, hib⟩ : I64) (xa, ((⟨la1, 0⟩ : Stamp), ([] : List (Key × Write)))) xl1
        refine Ent.perm ?_ (bring (Ls := LsA) (pre := ([])) (R := L)).symm
        refine Seq.rd0 at2 rfl rfl (O.move (v := .tuple _) rfl) ?_
        refine Seq.rd0 at3 rfl rfl (O.ext rfl r2_0) ?_
        refine Seq.rd0 at4 rfl rfl (O.ext rfl r2_1) ?_
        refine Seq.rd0 at5 rfl rfl (O.assign (v := .int .i64 _) rfl) ?_
        refine Seq.rd0 at6 rfl rfl (O.assign (v := .int .i64 _) rfl) ?_
        refine Seq.nil ?_
        refine hK14 ?_
        refine Cd.seq (fun K15 hK15 => ?_)
        refine Cd.region [0, 1, 2, 3, 4, 5, 6] rfl ?_
        refine Seq.rd0 at0 rfl rfl (O.move (v := .pointer _) rfl) ?_
        refine Seq.op at1 rfl (Op.callF rfl hb_53 (Fn.perm (C_So_Begin (R := ([]) ++ L) (ti := ⟨bg1 + 1 + 1, hib2⟩) hSA rfl (by omega) (by omega)) (bring (pre := ([])) (Ls := LsA) (R := L))) rfl ?_)
        rintro _ _ ⟨rfl, xb, LsB, hSB, rfl⟩
        have hne : (⟨bg1 + 1 + 1, hib2⟩ : I64) ≠ (⟨bg1 + 1, hib⟩ : I64) := fun e => by have := congrArg Subtype.val e; simp at this; try omega
        have hlx0 : alook (aput (aput xl1 (⟨bg1 + 1, hib⟩ : I64) (xa, (⟨la1, 0⟩, []))) (⟨bg1 + 1 + 1, hib2⟩ : I64) (xb, (⟨la1, 0⟩, []))) (⟨bg1 + 1, hib⟩ : I64) = some (xa, (⟨la1, 0⟩, [])) := (alook_put_ne _ (Ne.symm hne) _).trans (alook_put_same _ _ _)
        have hly0 : alook (aput (aput xl1 (⟨bg1 + 1, hib⟩ : I64) (xa, (⟨la1, 0⟩, []))) (⟨bg1 + 1 + 1, hib2⟩ : I64) (xb, (⟨la1, 0⟩, []))) (⟨bg1 + 1 + 1, hib2⟩ : I64) = some (xb, (⟨la1, 0⟩, [])) := alook_put_same _ _ _
        generalize hg : (aput (aput xl1 (⟨bg1 + 1, hib⟩ : I64) (xa, (⟨la1, 0⟩, []))) (⟨bg1 + 1 + 1, hib2⟩ : I64) (xb, (⟨la1, 0⟩, []))) = xl2 at hSB hlx0 hly0
        refine Ent.perm ?_ (bring (Ls := LsB) (pre := ([])) (R := L)).symm
        refine Seq.rd0 at2 rfl rfl (O.move (v := .tuple _) rfl) ?_
        refine Seq.rd0 at3 rfl rfl (O.ext rfl r2_0) ?_
        refine Seq.rd0 at4 rfl rfl (O.ext rfl r2_1) ?_
        refine Seq.rd0 at5 rfl rfl (O.assign (v := .int .i64 _) rfl) ?_
        refine Seq.rd0 at6 rfl rfl (O.assign (v := .int .i64 _) rfl) ?_
        refine Seq.nil ?_
        refine hK15 ?_
        refine Cd.seq (fun K16 hK16 => ?_)
        refine Cd.region [0] rfl ?_
        refine Seq.rd0 at0 rfl rfl (O.assign (v := .bool _) rfl) ?_
        refine Seq.nil ?_
        refine hK16 ?_
        refine Cd.seq (fun K17 hK17 => ?_)
        refine Cd.seq (fun K18 hK18 => ?_)
        refine Cd.region [0] rfl ?_
        refine Seq.rd0 at0 rfl rfl (O.assign (v := .int .i64 _) rfl) ?_
        refine Seq.nil ?_
        refine hK18 ?_
        refine Cd.block ?_
        refine Cd.loop (fun m19 e20 L21 => ∃ i : Nat, ∃ com : Bool, ∃ xl3 : List (I64 × TX), ∃ Ls3 : List Pt, m19 = us.length - i ∧ e20 1 = .slice au nu cu ∧ e20 2 = .slice aw nv cv ∧ e20 6 = .bool false ∧ e20 7 = .pointer (some ⟨p, 0, none⟩) ∧ e20 8 = .int .i64 (bg1 + 1) ∧ e20 10 = .int .i64 (bg1 + 1 + 1) ∧ e20 12 = .bool com ∧ e20 13 = .int .i64 (i : Int) ∧ L21 = (Ls3 ++ (L)) ∧ i ≤ us.length ∧ SoOwn p l1 xl3 (bg1 + 1 + 1) la1 Ls3 ∧ alook xl3 (⟨bg1 + 1, hib⟩ : I64) = some (xa, (⟨la1, 0⟩, wsAll [] (us.take i))) ∧ alook xl3 (⟨bg1 + 1 + 1, hib2⟩ : I64) = some (xb, (⟨la1, 0⟩, [])) ∧ (com = true → ∃ x ∈ us, ∃ y ∈ vs, comW x y = true) ∧ (com = false → ∀ x ∈ us.take i, ∀ y ∈ vs, comW x y = false)) _ ⟨0, false, xl2, LsB, rfl, rfl, rfl, rfl, rfl, rfl, rfl, rfl, rfl, rfl, Nat.zero_le _, hSB, hlx0, hly0, fun h => Bool.noConfusion h, fun _ x hx => by simp at hx⟩ ?_
        rintro _ e20 _ ⟨i, com, xl3, Ls3, rfl, s22, s23, s24, s25, s26, s27, s28, s29, rfl, hi, hS3, hlx, hly, hcT, hcF⟩ K30 hK30
        refine Cd.seq (fun K31 hK31 => ?_)
        refine Cd.seq (fun K32 hK32 => ?_)
        refine Cd.region [0, 1, 2, 3] rfl ?_
        refine Seq.rd0 at0 rfl rfl (O.move (v := .int .i64 _) (by exact s29)) ?_
        refine Seq.rd0 at1 rfl rfl (O.move (v := .slice _ _ _) (by exact s22)) ?_
        refine Seq.rd0 at2 rfl rfl (O.lenS ds_25 rfl) ?_
        refine Seq.rd0 at3 rfl rfl (O.lss rfl rfl) ?_
        refine Seq.nil ?_
        refine hK32 ?_
        refine Cd.if ((i : Int) < (nu : Int)) rfl (fun t33 => ?_) (fun t33 => ?_)
        · skip
          refine Cd.skip ?_
          refine hK31 ?_
          refine Cd.seq (fun K34 hK34 => ?_)
          refine Cd.block ?_
          refine Cd.seq (fun K35 hK35 => ?_)
          refine Cd.region [0, 1, 2, 3, 4, 5, 6] rfl ?_
          refine Seq.rd0 at0 rfl rfl (O.move (v := .pointer _) (by exact s25)) ?_
          refine Seq.rd0 at1 rfl rfl (O.move (v := .int .i64 _) (by exact s26)) ?_
          refine Seq.rd0 at2 rfl rfl (O.move (v := .slice _ _ _) (by exact s22)) ?_
          refine Seq.rd0 at3 rfl rfl (O.move (v := .int .i64 _) (by exact s29)) ?_
          have hlt36 : i < us.length := by omega
          obtain ⟨pre36, sp36, el36, fz36, hav36, hrd36⟩ := hU.at_ hlt36
          refine Seq.rd0 at4 rfl rfl (O.indexG sl_25 rfl hav36 rfl (by omega) (by omega)) ?_
          refine Seq.rd1 at5 rfl rfl (O.loadA kd_47 rfl (rowRoomP Write_size (getN hlt36)) (rowAtP Write_size (getN hlt36))) hrd36.app ?_
          refine Seq.op at6 rfl (Op.callF rfl hb_54 (Fn.perm (C_So_Put (R := ([]) ++ L) (ti := (⟨bg1 + 1, hib⟩ : I64)) (x := us[i]) hS3) (bring (pre := ([])) (Ls := Ls3) (R := L))) rfl ?_)
          rintro _ _ ⟨rfl, Ls4, hS4, rfl⟩
          refine Ent.perm ?_ (bring (Ls := Ls4) (pre := ([])) (R := L)).symm
          refine Seq.nil ?_
          refine hK35 ?_
          refine Cd.seq (fun K37 hK37 => ?_)
          refine Cd.region [0] rfl ?_
          refine Seq.rd0 at0 rfl rfl (O.assign (v := .int .i64 _) rfl) ?_
          refine Seq.nil ?_
          refine hK37 ?_
          refine Cd.block ?_
          refine Cd.loop (fun m38 e39 L40 => ∃ k : Nat, ∃ com2 : Bool, m38 = vs.length - k ∧ e39 1 = .slice au nu cu ∧ e39 2 = .slice aw nv cv ∧ e39 6 = .bool false ∧ e39 7 = .pointer (some ⟨p, 0, none⟩) ∧ e39 8 = .int .i64 (bg1 + 1) ∧ e39 10 = .int .i64 (bg1 + 1 + 1) ∧ e39 12 = .bool com2 ∧ e39 13 = .int .i64 (i : Int) ∧ e39 14 = .int .i64 (k : Int) ∧ e39 49 = .int .i64 (i : Int) ∧ e39 50 = .slice au nu cu ∧ e39 51 = .int .i64 (nu : Int) ∧ e39 52 = .bool (decide ((i : Int) < (nu : Int))) ∧ e39 55 = .pointer (some ⟨p, 0, none⟩) ∧ e39 56 = .int .i64 (bg1 + 1) ∧ e39 57 = .slice au nu cu ∧ e39 58 = .int .i64 (i : Int) ∧ e39 59 = .pointer (some ⟨(blk au), pre36.size + (((i : Nat) : Int)).toNat * 18, none⟩) ∧ e39 60 = .agg (Write_enc us[i]) ∧ L40 = (Ls4 ++ (L)) ∧ k ≤ vs.length ∧ (com2 = true → ∃ x ∈ us, ∃ y ∈ vs, comW x y = true) ∧ (com2 = false → (∀ x ∈ us.take i, ∀ y ∈ vs, comW x y = false) ∧ ∀ y ∈ vs.take k, comW (us[i]'(by omega)) y = false)) _ ⟨0, com, rfl, (by exact s22), (by exact s23), (by exact s24), (by exact s25), (by exact s26), (by exact s27), (by exact s28), (by exact s29), rfl, rfl, rfl, rfl, rfl, rfl, rfl, rfl, rfl, rfl, rfl, rfl, Nat.zero_le _, hcT, fun h => ⟨hcF h, fun y hy => by simp at hy⟩⟩ ?_
          rintro _ e39 _ ⟨k, com2, rfl, s41, s42, s43, s44, s45, s46, s47, s48, s49, s50, s51, s52, s53, s54, s55, s56, s57, s58, s59, rfl, hk, hcT2, hcF2⟩ K60 hK60
          refine Cd.seq (fun K61 hK61 => ?_)
          refine Cd.seq (fun K62 hK62 => ?_)
          refine Cd.region [0, 1, 2, 3] rfl ?_
          refine Seq.rd0 at0 rfl rfl (O.move (v := .int .i64 _) (by exact s49)) ?_
          refine Seq.rd0 at1 rfl rfl (O.move (v := .slice _ _ _) (by exact s42)) ?_
          refine Seq.rd0 at2 rfl rfl (O.lenS ds_25 rfl) ?_
          refine Seq.rd0 at3 rfl rfl (O.lss rfl rfl) ?_
          refine Seq.nil ?_
          refine hK62 ?_
          refine Cd.if ((k : Int) < (nv : Int)) rfl (fun t63 => ?_) (fun t63 => ?_)
          · skip
            refine Cd.skip ?_
            refine hK61 ?_
            refine Cd.seq (fun K64 hK64 => ?_)
            refine Cd.block ?_
            refine Cd.draw 73 rfl po ?_
            refine Any.rd0 0 at0 rfl rfl (O.move (v := .bool _) (by exact s47)) (by kernel_rfl) (by kernel_rfl) (by kernel_rfl) ?_
            refine Any.rd0 1 at1 rfl rfl (O.move (v := .bool _) rfl) (by kernel_rfl) (by kernel_rfl) (by kernel_rfl) ?_
            cases t65 : com2
            · skip
              refine Any.rd0 2 at2 rfl rfl (O.move (v := .slice _ _ _) (by exact s41)) (by kernel_rfl) (by kernel_rfl) (by kernel_rfl) ?_
              refine Any.rd0 3 at3 rfl rfl (O.move (v := .int .i64 _) (by exact s48)) (by kernel_rfl) (by kernel_rfl) (by kernel_rfl) ?_
              have hlt66 : i < us.length := by omega
              obtain ⟨pre66, sp66, el66, fz66, hav66, hrd66⟩ := hU.at_ hlt66
              refine Any.rd0 4 at4 rfl rfl (O.indexG sl_25 rfl hav66 rfl (by omega) (by omega)) (by kernel_rfl) (by kernel_rfl) (by kernel_rfl) ?_
              refine Any.rd0 5 at5 rfl rfl (O.field fo_47_0 rfl) (by kernel_rfl) (by kernel_rfl) (by kernel_rfl) ?_
              refine Any.rd1 6 at6 rfl rfl (O.loadA kd_45 rfl (rowRoomFP Write_size (getN hlt66) (by decide)) (rowSubP Write_size (getN hlt66) (by decide) (Write_key _))) hrd66.app (by kernel_rfl) (by kernel_rfl) (by kernel_rfl) ?_
              refine Any.rd0 7 at7 rfl rfl (O.move (v := .slice _ _ _) (by exact s42)) (by kernel_rfl) (by kernel_rfl) (by kernel_rfl) ?_
              refine Any.rd0 8 at8 rfl rfl (O.move (v := .int .i64 _) (by exact s49)) (by kernel_rfl) (by kernel_rfl) (by kernel_rfl) ?_
              have hlt67 : k < vs.length := by omega
              obtain ⟨pre67, sp67, el67, fz67, hav67, hrd67⟩ := hV.at_ hlt67
              refine Any.rd0 9 at9 rfl rfl (O.indexG sl_25 rfl hav67 rfl (by omega) (by omega)) (by kernel_rfl) (by kernel_rfl) (by kernel_rfl) ?_
              refine Any.rd0 10 at10 rfl rfl (O.field fo_47_0 rfl) (by kernel_rfl) (by kernel_rfl) (by kernel_rfl) ?_
              refine Any.rd1 11 at11 rfl rfl (O.loadA kd_45 rfl (rowRoomFP Write_size (getN hlt67) (by decide)) (rowSubP Write_size (getN hlt67) (by decide) (Write_key _))) hrd67.app (by kernel_rfl) (by kernel_rfl) (by kernel_rfl) ?_
              refine Any.rd0 12 at12 rfl rfl (eqKey rfl rfl) (by kernel_rfl) (by kernel_rfl) (by kernel_rfl) ?_
              refine Any.rd0 13 at13 rfl rfl (O.move (v := .bool _) rfl) (by kernel_rfl) (by kernel_rfl) (by kernel_rfl) ?_
              by_cases t68 : us[i].key = vs[k].key
              · rw [decide_eq_true t68]
                refine Any.rd0 14 at14 rfl rfl (O.move (v := .slice _ _ _) (by exact s41)) (by kernel_rfl) (by kernel_rfl) (by kernel_rfl) ?_
                refine Any.rd0 15 at15 rfl rfl (O.move (v := .int .i64 _) (by exact s48)) (by kernel_rfl) (by kernel_rfl) (by kernel_rfl) ?_
                have hlt69 : i < us.length := by omega
                obtain ⟨pre69, sp69, el69, fz69, hav69, hrd69⟩ := hU.at_ hlt69
                refine Any.rd0 16 at16 rfl rfl (O.indexG sl_25 rfl hav69 rfl (by omega) (by omega)) (by kernel_rfl) (by kernel_rfl) (by kernel_rfl) ?_
                refine Any.rd0 17 at17 rfl rfl (O.field fo_47_1 rfl) (by kernel_rfl) (by kernel_rfl) (by kernel_rfl) ?_
                refine Any.rd1 18 at18 rfl rfl (O.load kd_9 rfl ((rowGetP Write_size (getN hlt69) (by decide)).trans (Write_val _))) hrd69.app (by kernel_rfl) (by kernel_rfl) (by kernel_rfl) ?_
                refine Any.rd0 19 at19 rfl rfl (O.lenT ds_9 rfl) (by kernel_rfl) (by kernel_rfl) (by kernel_rfl) ?_
                refine Any.rd0 20 at20 rfl rfl (O.leq rfl rfl) (by kernel_rfl) (by kernel_rfl) (by kernel_rfl) ?_
                refine Any.rd0 21 at21 rfl rfl (O.pickT (v := .bool _) rfl rfl) (by kernel_rfl) (by kernel_rfl) (by kernel_rfl) ?_
                refine Any.rd0 22 at22 rfl rfl (O.move (v := .bool _) rfl) (by kernel_rfl) (by kernel_rfl) (by kernel_rfl) ?_
                by_cases t70 : (us[i].val.size : Int) ≤ 200
                · rw [decide_eq_true t70]
                  refine Any.rd0 23 at23 rfl rfl (O.move (v := .slice _ _ _) (by exact s42)) (by kernel_rfl) (by kernel_rfl) (by kernel_rfl) ?_
                  refine Any.rd0 24 at24 rfl rfl (O.move (v := .int .i64 _) (by exact s49)) (by kernel_rfl) (by kernel_rfl) (by kernel_rfl) ?_
                  have hlt71 : k < vs.length := by omega
                  obtain ⟨pre71, sp71, el71, fz71, hav71, hrd71⟩ := hV.at_ hlt71
                  refine Any.rd0 25 at25 rfl rfl (O.indexG sl_25 rfl hav71 rfl (by omega) (by omega)) (by kernel_rfl) (by kernel_rfl) (by kernel_rfl) ?_
                  refine Any.rd0 26 at26 rfl rfl (O.field fo_47_1 rfl) (by kernel_rfl) (by kernel_rfl) (by kernel_rfl) ?_
                  refine Any.rd1 27 at27 rfl rfl (O.load kd_9 rfl ((rowGetP Write_size (getN hlt71) (by decide)).trans (Write_val _))) hrd71.app (by kernel_rfl) (by kernel_rfl) (by kernel_rfl) ?_
                  refine Any.rd0 28 at28 rfl rfl (O.lenT ds_9 rfl) (by kernel_rfl) (by kernel_rfl) (by kernel_rfl) ?_
                  refine Any.rd0 29 at29 rfl rfl (O.leq rfl rfl) (by kernel_rfl) (by kernel_rfl) (by kernel_rfl) ?_
                  refine Any.rd0 30 at30 rfl rfl (O.pickT (v := .bool _) rfl rfl) (by kernel_rfl) (by kernel_rfl) (by kernel_rfl) ?_
                  refine Any.rd0 31 at31 rfl rfl (O.move (v := .bool _) rfl) (by kernel_rfl) (by kernel_rfl) (by kernel_rfl) ?_
                  by_cases t72 : (vs[k].val.size : Int) ≤ 200
                  · rw [decide_eq_true t72]
                    refine Any.rd0 32 at32 rfl rfl (O.move (v := .slice _ _ _) (by exact s41)) (by kernel_rfl) (by kernel_rfl) (by kernel_rfl) ?_
                    refine Any.rd0 33 at33 rfl rfl (O.move (v := .int .i64 _) (by exact s48)) (by kernel_rfl) (by kernel_rfl) (by kernel_rfl) ?_
                    have hlt73 : i < us.length := by omega
                    obtain ⟨pre73, sp73, el73, fz73, hav73, hrd73⟩ := hU.at_ hlt73
                    refine Any.rd0 34 at34 rfl rfl (O.indexG sl_25 rfl hav73 rfl (by omega) (by omega)) (by kernel_rfl) (by kernel_rfl) (by kernel_rfl) ?_
                    refine Any.rd0 35 at35 rfl rfl (O.field fo_47_2 rfl) (by kernel_rfl) (by kernel_rfl) (by kernel_rfl) ?_
                    refine Any.rd1 36 at36 rfl rfl (O.load kd_4 rfl ((rowGetP Write_size (getN hlt73) (by decide)).trans (Write_gone _))) hrd73.app (by kernel_rfl) (by kernel_rfl) (by kernel_rfl) ?_
                    refine Any.rd0 37 at37 rfl rfl (O.not rfl) (by kernel_rfl) (by kernel_rfl) (by kernel_rfl) ?_
                    refine Any.rd0 38 at38 rfl rfl (O.move (v := .bool _) rfl) (by kernel_rfl) (by kernel_rfl) (by kernel_rfl) ?_
                    cases t74 : us[i].gone
                    · skip
                      refine Any.pass 39 at39 rfl rfl (by kernel_rfl) (by kernel_rfl) (by kernel_rfl) ?_
                      refine Any.pass 40 at40 rfl rfl (by kernel_rfl) (by kernel_rfl) (by kernel_rfl) ?_
                      refine Any.pass 41 at41 rfl rfl (by kernel_rfl) (by kernel_rfl) (by kernel_rfl) ?_
                      refine Any.pass 42 at42 rfl rfl (by kernel_rfl) (by kernel_rfl) (by kernel_rfl) ?_
                      refine Any.pass 43 at43 rfl rfl (by kernel_rfl) (by kernel_rfl) (by kernel_rfl) ?_
                      refine Any.pass 44 at44 rfl rfl (by kernel_rfl) (by kernel_rfl) (by kernel_rfl) ?_
                      refine Any.rd0 45 at45 rfl rfl (O.pickT (v := .bool _) rfl rfl) (by kernel_rfl) (by kernel_rfl) (by kernel_rfl) ?_
                      refine Any.rd0 46 at46 rfl rfl (O.pickT (v := .bool _) rfl rfl) (by kernel_rfl) (by kernel_rfl) (by kernel_rfl) ?_
                      refine Any.rd0 47 at47 rfl rfl (O.move (v := .bool _) rfl) (by kernel_rfl) (by kernel_rfl) (by kernel_rfl) ?_
                      refine Any.rd0 48 at48 rfl rfl (O.move (v := .slice _ _ _) (by exact s42)) (by kernel_rfl) (by kernel_rfl) (by kernel_rfl) ?_
                      refine Any.rd0 49 at49 rfl rfl (O.move (v := .int .i64 _) (by exact s49)) (by kernel_rfl) (by kernel_rfl) (by kernel_rfl) ?_
                      have hlt75 : k < vs.length := by omega
                      obtain ⟨pre75, sp75, el75, fz75, hav75, hrd75⟩ := hV.at_ hlt75
                      refine Any.rd0 50 at50 rfl rfl (O.indexG sl_25 rfl hav75 rfl (by omega) (by omega)) (by kernel_rfl) (by kernel_rfl) (by kernel_rfl) ?_
                      refine Any.rd0 51 at51 rfl rfl (O.field fo_47_2 rfl) (by kernel_rfl) (by kernel_rfl) (by kernel_rfl) ?_
                      refine Any.rd1 52 at52 rfl rfl (O.load kd_4 rfl ((rowGetP Write_size (getN hlt75) (by decide)).trans (Write_gone _))) hrd75.app (by kernel_rfl) (by kernel_rfl) (by kernel_rfl) ?_
                      refine Any.rd0 53 at53 rfl rfl (O.not rfl) (by kernel_rfl) (by kernel_rfl) (by kernel_rfl) ?_
                      refine Any.rd0 54 at54 rfl rfl (O.move (v := .bool _) rfl) (by kernel_rfl) (by kernel_rfl) (by kernel_rfl) ?_
                      cases t76 : vs[k].gone
                      · skip
                        refine Any.pass 55 at55 rfl rfl (by kernel_rfl) (by kernel_rfl) (by kernel_rfl) ?_
                        refine Any.pass 56 at56 rfl rfl (by kernel_rfl) (by kernel_rfl) (by kernel_rfl) ?_
                        refine Any.pass 57 at57 rfl rfl (by kernel_rfl) (by kernel_rfl) (by kernel_rfl) ?_
                        refine Any.pass 58 at58 rfl rfl (by kernel_rfl) (by kernel_rfl) (by kernel_rfl) ?_
                        refine Any.pass 59 at59 rfl rfl (by kernel_rfl) (by kernel_rfl) (by kernel_rfl) ?_
                        refine Any.pass 60 at60 rfl rfl (by kernel_rfl) (by kernel_rfl) (by kernel_rfl) ?_
                        refine Any.rd0 61 at61 rfl rfl (O.pickT (v := .bool _) rfl rfl) (by kernel_rfl) (by kernel_rfl) (by kernel_rfl) ?_
                        refine Any.rd0 62 at62 rfl rfl (O.pickT (v := .bool _) rfl rfl) (by kernel_rfl) (by kernel_rfl) (by kernel_rfl) ?_
                        refine Any.rd0 63 at63 rfl rfl (O.move (v := .bool _) rfl) (by kernel_rfl) (by kernel_rfl) (by kernel_rfl) ?_
                        refine Any.rd0 64 at64 rfl rfl (O.move (v := .slice _ _ _) (by exact s41)) (by kernel_rfl) (by kernel_rfl) (by kernel_rfl) ?_
                        refine Any.rd0 65 at65 rfl rfl (O.move (v := .int .i64 _) (by exact s48)) (by kernel_rfl) (by kernel_rfl) (by kernel_rfl) ?_
                        have hlt77 : i < us.length := by omega
                        obtain ⟨pre77, sp77, el77, fz77, hav77, hrd77⟩ := hU.at_ hlt77
                        refine Any.rd0 66 at66 rfl rfl (O.indexG sl_25 rfl hav77 rfl (by omega) (by omega)) (by kernel_rfl) (by kernel_rfl) (by kernel_rfl) ?_
                        refine Any.rd0 67 at67 rfl rfl (O.field fo_47_0 rfl) (by kernel_rfl) (by kernel_rfl) (by kernel_rfl) ?_
                        refine Any.rd1 68 at68 rfl rfl (O.loadA kd_45 rfl (rowRoomFP Write_size (getN hlt77) (by decide)) (rowSubP Write_size (getN hlt77) (by decide) (Write_key _))) hrd77.app (by kernel_rfl) (by kernel_rfl) (by kernel_rfl) ?_
                        refine Any.one 69 at69 rfl (by kernel_rfl) ⟨⟨⟨⟨⟨⟨⟨trivial, hrd66.app⟩, hrd67.app⟩, hrd69.app⟩, hrd71.app⟩, hrd73.app⟩, hrd75.app⟩, hrd77.app⟩ ?_
                        refine Op.callF rfl hb_55 (C_ref_Good (k := us[i].key)) rfl ?_
                        rintro _ _ ⟨rfl, rfl⟩
                        refine Any.toK ?_
                        refine Any.rd0 70 at70 rfl rfl (O.pickT (v := .bool _) rfl rfl) (by kernel_rfl) (by kernel_rfl) (by kernel_rfl) ?_
                        refine Any.rd0 71 at71 rfl rfl (O.pickF (v := .bool _) rfl rfl) (by kernel_rfl) (by kernel_rfl) (by kernel_rfl) ?_
                        refine Any.rd0 72 at72 rfl rfl (O.assign (v := .bool _) rfl) (by kernel_rfl) (by kernel_rfl) (by kernel_rfl) ?_
                        refine Any.done (by kernel_rfl) ⟨⟨⟨⟨⟨⟨⟨trivial, hrd66.app⟩, hrd67.app⟩, hrd69.app⟩, hrd71.app⟩, hrd73.app⟩, hrd75.app⟩, hrd77.app⟩ ?_
                        refine hK64 ?_
                        refine Cd.region [0, 1, 2] rfl ?_
                        refine Seq.rd0 at0 rfl rfl (O.move (v := .int .i64 _) (by exact s49)) ?_
                        refine Seq.rd0 at1 rfl rfl (O.add rfl rfl (by omega) (by omega)) ?_
                        refine Seq.rd0 at2 rfl rfl (O.assign (v := .int .i64 _) rfl) ?_
                        refine Seq.nil ?_
                        have hlu : i < us.length := by omega
                        have hlv : k < vs.length := by omega
                        exact hK60 _ (by omega) ⟨k + 1, (goodK us[i].key), rfl, (by exact s41), (by exact s42), (by exact s43), (by exact s44), (by exact s45), (by exact s46), rfl, (by exact s48), rfl, (by exact s50), (by exact s51), (by exact s52), (by exact s53), (by exact s54), (by exact s55), (by exact s56), (by exact s57), (by exact s58), (by exact s59), rfl, by omega, fun h => ⟨us[i], List.getElem_mem hlu, vs[k], List.getElem_mem hlv, comW_t (by assumption) (by assumption) (by assumption) (by first | exact .inl (by assumption) | exact .inr (by assumption)) (by first | exact .inl (by assumption) | exact .inr (by assumption)) h⟩, fun h => ⟨(hcF2 (by assumption)).1, takeP_next (by omega) (hcF2 (by assumption)).2 (comW_6 h)⟩⟩
                      · skip
                        refine Any.rd0 55 at55 rfl rfl (O.move (v := .slice _ _ _) (by exact s42)) (by kernel_rfl) (by kernel_rfl) (by kernel_rfl) ?_
                        refine Any.rd0 56 at56 rfl rfl (O.move (v := .int .i64 _) (by exact s49)) (by kernel_rfl) (by kernel_rfl) (by kernel_rfl) ?_
                        have hlt78 : k < vs.length := by omega
                        obtain ⟨pre78, sp78, el78, fz78, hav78, hrd78⟩ := hV.at_ hlt78
                        refine Any.rd0 57 at57 rfl rfl (O.indexG sl_25 rfl hav78 rfl (by omega) (by omega)) (by kernel_rfl) (by kernel_rfl) (by kernel_rfl) ?_
                        refine Any.rd0 58 at58 rfl rfl (O.field fo_47_1 rfl) (by kernel_rfl) (by kernel_rfl) (by kernel_rfl) ?_
                        refine Any.rd1 59 at59 rfl rfl (O.load kd_9 rfl ((rowGetP Write_size (getN hlt78) (by decide)).trans (Write_val _))) hrd78.app (by kernel_rfl) (by kernel_rfl) (by kernel_rfl) ?_
                        refine Any.rd0 60 at60 rfl rfl (O.eqS rfl rfl) (by kernel_rfl) (by kernel_rfl) (by kernel_rfl) ?_
                        refine Any.rd0 61 at61 rfl rfl (O.pickF (v := .bool _) rfl rfl) (by kernel_rfl) (by kernel_rfl) (by kernel_rfl) ?_
                        refine Any.rd0 62 at62 rfl rfl (O.pickT (v := .bool _) rfl rfl) (by kernel_rfl) (by kernel_rfl) (by kernel_rfl) ?_
                        refine Any.rd0 63 at63 rfl rfl (O.move (v := .bool _) rfl) (by kernel_rfl) (by kernel_rfl) (by kernel_rfl) ?_
                        by_cases t79 : vs[k].val = ⟨#[]⟩
                        · rw [decide_eq_true t79]
                          refine Any.rd0 64 at64 rfl rfl (O.move (v := .slice _ _ _) (by exact s41)) (by kernel_rfl) (by kernel_rfl) (by kernel_rfl) ?_
                          refine Any.rd0 65 at65 rfl rfl (O.move (v := .int .i64 _) (by exact s48)) (by kernel_rfl) (by kernel_rfl) (by kernel_rfl) ?_
                          have hlt80 : i < us.length := by omega
                          obtain ⟨pre80, sp80, el80, fz80, hav80, hrd80⟩ := hU.at_ hlt80
                          refine Any.rd0 66 at66 rfl rfl (O.indexG sl_25 rfl hav80 rfl (by omega) (by omega)) (by kernel_rfl) (by kernel_rfl) (by kernel_rfl) ?_
                          refine Any.rd0 67 at67 rfl rfl (O.field fo_47_0 rfl) (by kernel_rfl) (by kernel_rfl) (by kernel_rfl) ?_
                          refine Any.rd1 68 at68 rfl rfl (O.loadA kd_45 rfl (rowRoomFP Write_size (getN hlt80) (by decide)) (rowSubP Write_size (getN hlt80) (by decide) (Write_key _))) hrd80.app (by kernel_rfl) (by kernel_rfl) (by kernel_rfl) ?_
                          refine Any.one 69 at69 rfl (by kernel_rfl) ⟨⟨⟨⟨⟨⟨⟨⟨trivial, hrd66.app⟩, hrd67.app⟩, hrd69.app⟩, hrd71.app⟩, hrd73.app⟩, hrd75.app⟩, hrd78.app⟩, hrd80.app⟩ ?_
                          refine Op.callF rfl hb_55 (C_ref_Good (k := us[i].key)) rfl ?_
                          rintro _ _ ⟨rfl, rfl⟩
                          refine Any.toK ?_
                          refine Any.rd0 70 at70 rfl rfl (O.pickT (v := .bool _) rfl rfl) (by kernel_rfl) (by kernel_rfl) (by kernel_rfl) ?_
                          refine Any.rd0 71 at71 rfl rfl (O.pickF (v := .bool _) rfl rfl) (by kernel_rfl) (by kernel_rfl) (by kernel_rfl) ?_
                          refine Any.rd0 72 at72 rfl rfl (O.assign (v := .bool _) rfl) (by kernel_rfl) (by kernel_rfl) (by kernel_rfl) ?_
                          refine Any.done (by kernel_rfl) ⟨⟨⟨⟨⟨⟨⟨⟨trivial, hrd66.app⟩, hrd67.app⟩, hrd69.app⟩, hrd71.app⟩, hrd73.app⟩, hrd75.app⟩, hrd78.app⟩, hrd80.app⟩ ?_
                          refine hK64 ?_
                          refine Cd.region [0, 1, 2] rfl ?_
                          refine Seq.rd0 at0 rfl rfl (O.move (v := .int .i64 _) (by exact s49)) ?_
                          refine Seq.rd0 at1 rfl rfl (O.add rfl rfl (by omega) (by omega)) ?_
                          refine Seq.rd0 at2 rfl rfl (O.assign (v := .int .i64 _) rfl) ?_
                          refine Seq.nil ?_
                          have hlu : i < us.length := by omega
                          have hlv : k < vs.length := by omega
                          exact hK60 _ (by omega) ⟨k + 1, (goodK us[i].key), rfl, (by exact s41), (by exact s42), (by exact s43), (by exact s44), (by exact s45), (by exact s46), rfl, (by exact s48), rfl, (by exact s50), (by exact s51), (by exact s52), (by exact s53), (by exact s54), (by exact s55), (by exact s56), (by exact s57), (by exact s58), (by exact s59), rfl, by omega, fun h => ⟨us[i], List.getElem_mem hlu, vs[k], List.getElem_mem hlv, comW_t (by assumption) (by assumption) (by assumption) (by first | exact .inl (by assumption) | exact .inr (by assumption)) (by first | exact .inl (by assumption) | exact .inr (by assumption)) h⟩, fun h => ⟨(hcF2 (by assumption)).1, takeP_next (by omega) (hcF2 (by assumption)).2 (comW_6 h)⟩⟩
                        · rw [decide_eq_false t79]
                          refine Any.pass 64 at64 rfl rfl (by kernel_rfl) (by kernel_rfl) (by kernel_rfl) ?_
                          refine Any.pass 65 at65 rfl rfl (by kernel_rfl) (by kernel_rfl) (by kernel_rfl) ?_
                          refine Any.pass 66 at66 rfl rfl (by kernel_rfl) (by kernel_rfl) (by kernel_rfl) ?_
                          refine Any.pass 67 at67 rfl rfl (by kernel_rfl) (by kernel_rfl) (by kernel_rfl) ?_
                          refine Any.pass 68 at68 rfl rfl (by kernel_rfl) (by kernel_rfl) (by kernel_rfl) ?_
                          refine Any.pass 69 at69 rfl rfl (by kernel_rfl) (by kernel_rfl) (by kernel_rfl) ?_
                          refine Any.rd0 70 at70 rfl rfl (O.pickF (v := .bool _) rfl rfl) (by kernel_rfl) (by kernel_rfl) (by kernel_rfl) ?_
                          refine Any.rd0 71 at71 rfl rfl (O.pickF (v := .bool _) rfl rfl) (by kernel_rfl) (by kernel_rfl) (by kernel_rfl) ?_
                          refine Any.rd0 72 at72 rfl rfl (O.assign (v := .bool _) rfl) (by kernel_rfl) (by kernel_rfl) (by kernel_rfl) ?_
                          refine Any.done (by kernel_rfl) ⟨⟨⟨⟨⟨⟨⟨trivial, hrd66.app⟩, hrd67.app⟩, hrd69.app⟩, hrd71.app⟩, hrd73.app⟩, hrd75.app⟩, hrd78.app⟩ ?_
                          refine hK64 ?_
                          refine Cd.region [0, 1, 2] rfl ?_
                          refine Seq.rd0 at0 rfl rfl (O.move (v := .int .i64 _) (by exact s49)) ?_
                          refine Seq.rd0 at1 rfl rfl (O.add rfl rfl (by omega) (by omega)) ?_
                          refine Seq.rd0 at2 rfl rfl (O.assign (v := .int .i64 _) rfl) ?_
                          refine Seq.nil ?_
                          exact hK60 _ (by omega) ⟨k + 1, false, rfl, (by exact s41), (by exact s42), (by exact s43), (by exact s44), (by exact s45), (by exact s46), rfl, (by exact s48), rfl, (by exact s50), (by exact s51), (by exact s52), (by exact s53), (by exact s54), (by exact s55), (by exact s56), (by exact s57), (by exact s58), (by exact s59), rfl, by omega, fun h => Bool.noConfusion h, fun h => ⟨(hcF2 (by assumption)).1, takeP_next (by omega) (hcF2 (by assumption)).2 (by first | exact comW_1 (by assumption) | exact comW_2 (by assumption) | exact comW_3 (by assumption) | exact comW_4 (by assumption) (by assumption) | exact comW_5 (by assumption) (by assumption))⟩⟩
                    · skip
                      refine Any.rd0 39 at39 rfl rfl (O.move (v := .slice _ _ _) (by exact s41)) (by kernel_rfl) (by kernel_rfl) (by kernel_rfl) ?_
                      refine Any.rd0 40 at40 rfl rfl (O.move (v := .int .i64 _) (by exact s48)) (by kernel_rfl) (by kernel_rfl) (by kernel_rfl) ?_
                      have hlt81 : i < us.length := by omega
                      obtain ⟨pre81, sp81, el81, fz81, hav81, hrd81⟩ := hU.at_ hlt81
                      refine Any.rd0 41 at41 rfl rfl (O.indexG sl_25 rfl hav81 rfl (by omega) (by omega)) (by kernel_rfl) (by kernel_rfl) (by kernel_rfl) ?_
                      refine Any.rd0 42 at42 rfl rfl (O.field fo_47_1 rfl) (by kernel_rfl) (by kernel_rfl) (by kernel_rfl) ?_
                      refine Any.rd1 43 at43 rfl rfl (O.load kd_9 rfl ((rowGetP Write_size (getN hlt81) (by decide)).trans (Write_val _))) hrd81.app (by kernel_rfl) (by kernel_rfl) (by kernel_rfl) ?_
                      refine Any.rd0 44 at44 rfl rfl (O.eqS rfl rfl) (by kernel_rfl) (by kernel_rfl) (by kernel_rfl) ?_
                      refine Any.rd0 45 at45 rfl rfl (O.pickF (v := .bool _) rfl rfl) (by kernel_rfl) (by kernel_rfl) (by kernel_rfl) ?_
                      refine Any.rd0 46 at46 rfl rfl (O.pickT (v := .bool _) rfl rfl) (by kernel_rfl) (by kernel_rfl) (by kernel_rfl) ?_
                      refine Any.rd0 47 at47 rfl rfl (O.move (v := .bool _) rfl) (by kernel_rfl) (by kernel_rfl) (by kernel_rfl) ?_
                      by_cases t82 : us[i].val = ⟨#[]⟩
                      · rw [decide_eq_true t82]
                        refine Any.rd0 48 at48 rfl rfl (O.move (v := .slice _ _ _) (by exact s42)) (by kernel_rfl) (by kernel_rfl) (by kernel_rfl) ?_
                        refine Any.rd0 49 at49 rfl rfl (O.move (v := .int .i64 _) (by exact s49)) (by kernel_rfl) (by kernel_rfl) (by kernel_rfl) ?_
                        have hlt83 : k < vs.length := by omega
                        obtain ⟨pre83, sp83, el83, fz83, hav83, hrd83⟩ := hV.at_ hlt83
                        refine Any.rd0 50 at50 rfl rfl (O.indexG sl_25 rfl hav83 rfl (by omega) (by omega)) (by kernel_rfl) (by kernel_rfl) (by kernel_rfl) ?_
                        refine Any.rd0 51 at51 rfl rfl (O.field fo_47_2 rfl) (by kernel_rfl) (by kernel_rfl) (by kernel_rfl) ?_
                        refine Any.rd1 52 at52 rfl rfl (O.load kd_4 rfl ((rowGetP Write_size (getN hlt83) (by decide)).trans (Write_gone _))) hrd83.app (by kernel_rfl) (by kernel_rfl) (by kernel_rfl) ?_
                        refine Any.rd0 53 at53 rfl rfl (O.not rfl) (by kernel_rfl) (by kernel_rfl) (by kernel_rfl) ?_
                        refine Any.rd0 54 at54 rfl rfl (O.move (v := .bool _) rfl) (by kernel_rfl) (by kernel_rfl) (by kernel_rfl) ?_
                        cases t84 : vs[k].gone
                        · skip
                          refine Any.pass 55 at55 rfl rfl (by kernel_rfl) (by kernel_rfl) (by kernel_rfl) ?_
                          refine Any.pass 56 at56 rfl rfl (by kernel_rfl) (by kernel_rfl) (by kernel_rfl) ?_
                          refine Any.pass 57 at57 rfl rfl (by kernel_rfl) (by kernel_rfl) (by kernel_rfl) ?_
                          refine Any.pass 58 at58 rfl rfl (by kernel_rfl) (by kernel_rfl) (by kernel_rfl) ?_
                          refine Any.pass 59 at59 rfl rfl (by kernel_rfl) (by kernel_rfl) (by kernel_rfl) ?_
                          refine Any.pass 60 at60 rfl rfl (by kernel_rfl) (by kernel_rfl) (by kernel_rfl) ?_
                          refine Any.rd0 61 at61 rfl rfl (O.pickT (v := .bool _) rfl rfl) (by kernel_rfl) (by kernel_rfl) (by kernel_rfl) ?_
                          refine Any.rd0 62 at62 rfl rfl (O.pickT (v := .bool _) rfl rfl) (by kernel_rfl) (by kernel_rfl) (by kernel_rfl) ?_
                          refine Any.rd0 63 at63 rfl rfl (O.move (v := .bool _) rfl) (by kernel_rfl) (by kernel_rfl) (by kernel_rfl) ?_
                          refine Any.rd0 64 at64 rfl rfl (O.move (v := .slice _ _ _) (by exact s41)) (by kernel_rfl) (by kernel_rfl) (by kernel_rfl) ?_
                          refine Any.rd0 65 at65 rfl rfl (O.move (v := .int .i64 _) (by exact s48)) (by kernel_rfl) (by kernel_rfl) (by kernel_rfl) ?_
                          have hlt85 : i < us.length := by omega
                          obtain ⟨pre85, sp85, el85, fz85, hav85, hrd85⟩ := hU.at_ hlt85
                          refine Any.rd0 66 at66 rfl rfl (O.indexG sl_25 rfl hav85 rfl (by omega) (by omega)) (by kernel_rfl) (by kernel_rfl) (by kernel_rfl) ?_
                          refine Any.rd0 67 at67 rfl rfl (O.field fo_47_0 rfl) (by kernel_rfl) (by kernel_rfl) (by kernel_rfl) ?_
                          refine Any.rd1 68 at68 rfl rfl (O.loadA kd_45 rfl (rowRoomFP Write_size (getN hlt85) (by decide)) (rowSubP Write_size (getN hlt85) (by decide) (Write_key _))) hrd85.app (by kernel_rfl) (by kernel_rfl) (by kernel_rfl) ?_
                          refine Any.one 69 at69 rfl (by kernel_rfl) ⟨⟨⟨⟨⟨⟨⟨⟨trivial, hrd66.app⟩, hrd67.app⟩, hrd69.app⟩, hrd71.app⟩, hrd73.app⟩, hrd81.app⟩, hrd83.app⟩, hrd85.app⟩ ?_
                          refine Op.callF rfl hb_55 (C_ref_Good (k := us[i].key)) rfl ?_
                          rintro _ _ ⟨rfl, rfl⟩
                          refine Any.toK ?_
                          refine Any.rd0 70 at70 rfl rfl (O.pickT (v := .bool _) rfl rfl) (by kernel_rfl) (by kernel_rfl) (by kernel_rfl) ?_
                          refine Any.rd0 71 at71 rfl rfl (O.pickF (v := .bool _) rfl rfl) (by kernel_rfl) (by kernel_rfl) (by kernel_rfl) ?_
                          refine Any.rd0 72 at72 rfl rfl (O.assign (v := .bool _) rfl) (by kernel_rfl) (by kernel_rfl) (by kernel_rfl) ?_
                          refine Any.done (by kernel_rfl) ⟨⟨⟨⟨⟨⟨⟨⟨trivial, hrd66.app⟩, hrd67.app⟩, hrd69.app⟩, hrd71.app⟩, hrd73.app⟩, hrd81.app⟩, hrd83.app⟩, hrd85.app⟩ ?_
                          refine hK64 ?_
                          refine Cd.region [0, 1, 2] rfl ?_
                          refine Seq.rd0 at0 rfl rfl (O.move (v := .int .i64 _) (by exact s49)) ?_
                          refine Seq.rd0 at1 rfl rfl (O.add rfl rfl (by omega) (by omega)) ?_
                          refine Seq.rd0 at2 rfl rfl (O.assign (v := .int .i64 _) rfl) ?_
                          refine Seq.nil ?_
                          have hlu : i < us.length := by omega
                          have hlv : k < vs.length := by omega
                          exact hK60 _ (by omega) ⟨k + 1, (goodK us[i].key), rfl, (by exact s41), (by exact s42), (by exact s43), (by exact s44), (by exact s45), (by exact s46), rfl, (by exact s48), rfl, (by exact s50), (by exact s51), (by exact s52), (by exact s53), (by exact s54), (by exact s55), (by exact s56), (by exact s57), (by exact s58), (by exact s59), rfl, by omega, fun h => ⟨us[i], List.getElem_mem hlu, vs[k], List.getElem_mem hlv, comW_t (by assumption) (by assumption) (by assumption) (by first | exact .inl (by assumption) | exact .inr (by assumption)) (by first | exact .inl (by assumption) | exact .inr (by assumption)) h⟩, fun h => ⟨(hcF2 (by assumption)).1, takeP_next (by omega) (hcF2 (by assumption)).2 (comW_6 h)⟩⟩
                        · skip
                          refine Any.rd0 55 at55 rfl rfl (O.move (v := .slice _ _ _) (by exact s42)) (by kernel_rfl) (by kernel_rfl) (by kernel_rfl) ?_
                          refine Any.rd0 56 at56 rfl rfl (O.move (v := .int .i64 _) (by exact s49)) (by kernel_rfl) (by kernel_rfl) (by kernel_rfl) ?_
                          have hlt86 : k < vs.length := by omega
                          obtain ⟨pre86, sp86, el86, fz86, hav86, hrd86⟩ := hV.at_ hlt86
                          refine Any.rd0 57 at57 rfl rfl (O.indexG sl_25 rfl hav86 rfl (by omega) (by omega)) (by kernel_rfl) (by kernel_rfl) (by kernel_rfl) ?_
                          refine Any.rd0 58 at58 rfl rfl (O.field fo_47_1 rfl) (by kernel_rfl) (by kernel_rfl) (by kernel_rfl) ?_
                          refine Any.rd1 59 at59 rfl rfl (O.load kd_9 rfl ((rowGetP Write_size (getN hlt86) (by decide)).trans (Write_val _))) hrd86.app (by kernel_rfl) (by kernel_rfl) (by kernel_rfl) ?_
                          refine Any.rd0 60 at60 rfl rfl (O.eqS rfl rfl) (by kernel_rfl) (by kernel_rfl) (by kernel_rfl) ?_
                          refine Any.rd0 61 at61 rfl rfl (O.pickF (v := .bool _) rfl rfl) (by kernel_rfl) (by kernel_rfl) (by kernel_rfl) ?_
                          refine Any.rd0 62 at62 rfl rfl (O.pickT (v := .bool _) rfl rfl) (by kernel_rfl) (by kernel_rfl) (by kernel_rfl) ?_
                          refine Any.rd0 63 at63 rfl rfl (O.move (v := .bool _) rfl) (by kernel_rfl) (by kernel_rfl) (by kernel_rfl) ?_
                          by_cases t87 : vs[k].val = ⟨#[]⟩
                          · rw [decide_eq_true t87]
                            refine Any.rd0 64 at64 rfl rfl (O.move (v := .slice _ _ _) (by exact s41)) (by kernel_rfl) (by kernel_rfl) (by kernel_rfl) ?_
                            refine Any.rd0 65 at65 rfl rfl (O.move (v := .int .i64 _) (by exact s48)) (by kernel_rfl) (by kernel_rfl) (by kernel_rfl) ?_
                            have hlt88 : i < us.length := by omega
                            obtain ⟨pre88, sp88, el88, fz88, hav88, hrd88⟩ := hU.at_ hlt88
                            refine Any.rd0 66 at66 rfl rfl (O.indexG sl_25 rfl hav88 rfl (by omega) (by omega)) (by kernel_rfl) (by kernel_rfl) (by kernel_rfl) ?_
                            refine Any.rd0 67 at67 rfl rfl (O.field fo_47_0 rfl) (by kernel_rfl) (by kernel_rfl) (by kernel_rfl) ?_
                            refine Any.rd1 68 at68 rfl rfl (O.loadA kd_45 rfl (rowRoomFP Write_size (getN hlt88) (by decide)) (rowSubP Write_size (getN hlt88) (by decide) (Write_key _))) hrd88.app (by kernel_rfl) (by kernel_rfl) (by kernel_rfl) ?_
                            refine Any.one 69 at69 rfl (by kernel_rfl) ⟨⟨⟨⟨⟨⟨⟨⟨⟨trivial, hrd66.app⟩, hrd67.app⟩, hrd69.app⟩, hrd71.app⟩, hrd73.app⟩, hrd81.app⟩, hrd83.app⟩, hrd86.app⟩, hrd88.app⟩ ?_
                            refine Op.callF rfl hb_55 (C_ref_Good (k := us[i].key)) rfl ?_
                            rintro _ _ ⟨rfl, rfl⟩
                            refine Any.toK ?_
                            refine Any.rd0 70 at70 rfl rfl (O.pickT (v := .bool _) rfl rfl) (by kernel_rfl) (by kernel_rfl) (by kernel_rfl) ?_
                            refine Any.rd0 71 at71 rfl rfl (O.pickF (v := .bool _) rfl rfl) (by kernel_rfl) (by kernel_rfl) (by kernel_rfl) ?_
                            refine Any.rd0 72 at72 rfl rfl (O.assign (v := .bool _) rfl) (by kernel_rfl) (by kernel_rfl) (by kernel_rfl) ?_
                            refine Any.done (by kernel_rfl) ⟨⟨⟨⟨⟨⟨⟨⟨⟨trivial, hrd66.app⟩, hrd67.app⟩, hrd69.app⟩, hrd71.app⟩, hrd73.app⟩, hrd81.app⟩, hrd83.app⟩, hrd86.app⟩, hrd88.app⟩ ?_
                            refine hK64 ?_
                            refine Cd.region [0, 1, 2] rfl ?_
                            refine Seq.rd0 at0 rfl rfl (O.move (v := .int .i64 _) (by exact s49)) ?_
                            refine Seq.rd0 at1 rfl rfl (O.add rfl rfl (by omega) (by omega)) ?_
                            refine Seq.rd0 at2 rfl rfl (O.assign (v := .int .i64 _) rfl) ?_
                            refine Seq.nil ?_
                            have hlu : i < us.length := by omega
                            have hlv : k < vs.length := by omega
                            exact hK60 _ (by omega) ⟨k + 1, (goodK us[i].key), rfl, (by exact s41), (by exact s42), (by exact s43), (by exact s44), (by exact s45), (by exact s46), rfl, (by exact s48), rfl, (by exact s50), (by exact s51), (by exact s52), (by exact s53), (by exact s54), (by exact s55), (by exact s56), (by exact s57), (by exact s58), (by exact s59), rfl, by omega, fun h => ⟨us[i], List.getElem_mem hlu, vs[k], List.getElem_mem hlv, comW_t (by assumption) (by assumption) (by assumption) (by first | exact .inl (by assumption) | exact .inr (by assumption)) (by first | exact .inl (by assumption) | exact .inr (by assumption)) h⟩, fun h => ⟨(hcF2 (by assumption)).1, takeP_next (by omega) (hcF2 (by assumption)).2 (comW_6 h)⟩⟩
                          · rw [decide_eq_false t87]
                            refine Any.pass 64 at64 rfl rfl (by kernel_rfl) (by kernel_rfl) (by kernel_rfl) ?_
                            refine Any.pass 65 at65 rfl rfl (by kernel_rfl) (by kernel_rfl) (by kernel_rfl) ?_
                            refine Any.pass 66 at66 rfl rfl (by kernel_rfl) (by kernel_rfl) (by kernel_rfl) ?_
                            refine Any.pass 67 at67 rfl rfl (by kernel_rfl) (by kernel_rfl) (by kernel_rfl) ?_
                            refine Any.pass 68 at68 rfl rfl (by kernel_rfl) (by kernel_rfl) (by kernel_rfl) ?_
                            refine Any.pass 69 at69 rfl rfl (by kernel_rfl) (by kernel_rfl) (by kernel_rfl) ?_
                            refine Any.rd0 70 at70 rfl rfl (O.pickF (v := .bool _) rfl rfl) (by kernel_rfl) (by kernel_rfl) (by kernel_rfl) ?_
                            refine Any.rd0 71 at71 rfl rfl (O.pickF (v := .bool _) rfl rfl) (by kernel_rfl) (by kernel_rfl) (by kernel_rfl) ?_
                            refine Any.rd0 72 at72 rfl rfl (O.assign (v := .bool _) rfl) (by kernel_rfl) (by kernel_rfl) (by kernel_rfl) ?_
                            refine Any.done (by kernel_rfl) ⟨⟨⟨⟨⟨⟨⟨⟨trivial, hrd66.app⟩, hrd67.app⟩, hrd69.app⟩, hrd71.app⟩, hrd73.app⟩, hrd81.app⟩, hrd83.app⟩, hrd86.app⟩ ?_
                            refine hK64 ?_
                            refine Cd.region [0, 1, 2] rfl ?_
                            refine Seq.rd0 at0 rfl rfl (O.move (v := .int .i64 _) (by exact s49)) ?_
                            refine Seq.rd0 at1 rfl rfl (O.add rfl rfl (by omega) (by omega)) ?_
                            refine Seq.rd0 at2 rfl rfl (O.assign (v := .int .i64 _) rfl) ?_
                            refine Seq.nil ?_
                            exact hK60 _ (by omega) ⟨k + 1, false, rfl, (by exact s41), (by exact s42), (by exact s43), (by exact s44), (by exact s45), (by exact s46), rfl, (by exact s48), rfl, (by exact s50), (by exact s51), (by exact s52), (by exact s53), (by exact s54), (by exact s55), (by exact s56), (by exact s57), (by exact s58), (by exact s59), rfl, by omega, fun h => Bool.noConfusion h, fun h => ⟨(hcF2 (by assumption)).1, takeP_next (by omega) (hcF2 (by assumption)).2 (by first | exact comW_1 (by assumption) | exact comW_2 (by assumption) | exact comW_3 (by assumption) | exact comW_4 (by assumption) (by assumption) | exact comW_5 (by assumption) (by assumption))⟩⟩
                      · rw [decide_eq_false t82]
                        refine Any.pass 48 at48 rfl rfl (by kernel_rfl) (by kernel_rfl) (by kernel_rfl) ?_
                        refine Any.pass 49 at49 rfl rfl (by kernel_rfl) (by kernel_rfl) (by kernel_rfl) ?_
                        refine Any.pass 50 at50 rfl rfl (by kernel_rfl) (by kernel_rfl) (by kernel_rfl) ?_
                        refine Any.pass 51 at51 rfl rfl (by kernel_rfl) (by kernel_rfl) (by kernel_rfl) ?_
                        refine Any.pass 52 at52 rfl rfl (by kernel_rfl) (by kernel_rfl) (by kernel_rfl) ?_
                        refine Any.pass 53 at53 rfl rfl (by kernel_rfl) (by kernel_rfl) (by kernel_rfl) ?_
                        refine Any.pass 54 at54 rfl rfl (by kernel_rfl) (by kernel_rfl) (by kernel_rfl) ?_
                        refine Any.pass 55 at55 rfl rfl (by kernel_rfl) (by kernel_rfl) (by kernel_rfl) ?_
                        refine Any.pass 56 at56 rfl rfl (by kernel_rfl) (by kernel_rfl) (by kernel_rfl) ?_
                        refine Any.pass 57 at57 rfl rfl (by kernel_rfl) (by kernel_rfl) (by kernel_rfl) ?_
                        refine Any.pass 58 at58 rfl rfl (by kernel_rfl) (by kernel_rfl) (by kernel_rfl) ?_
                        refine Any.pass 59 at59 rfl rfl (by kernel_rfl) (by kernel_rfl) (by kernel_rfl) ?_
                        refine Any.pass 60 at60 rfl rfl (by kernel_rfl) (by kernel_rfl) (by kernel_rfl) ?_
                        refine Any.pass 61 at61 rfl rfl (by kernel_rfl) (by kernel_rfl) (by kernel_rfl) ?_
                        refine Any.rd0 62 at62 rfl rfl (O.pickF (v := .bool _) rfl rfl) (by kernel_rfl) (by kernel_rfl) (by kernel_rfl) ?_
                        refine Any.rd0 63 at63 rfl rfl (O.move (v := .bool _) rfl) (by kernel_rfl) (by kernel_rfl) (by kernel_rfl) ?_
                        refine Any.pass 64 at64 rfl rfl (by kernel_rfl) (by kernel_rfl) (by kernel_rfl) ?_
                        refine Any.pass 65 at65 rfl rfl (by kernel_rfl) (by kernel_rfl) (by kernel_rfl) ?_
                        refine Any.pass 66 at66 rfl rfl (by kernel_rfl) (by kernel_rfl) (by kernel_rfl) ?_
                        refine Any.pass 67 at67 rfl rfl (by kernel_rfl) (by kernel_rfl) (by kernel_rfl) ?_
                        refine Any.pass 68 at68 rfl rfl (by kernel_rfl) (by kernel_rfl) (by kernel_rfl) ?_
                        refine Any.pass 69 at69 rfl rfl (by kernel_rfl) (by kernel_rfl) (by kernel_rfl) ?_
                        refine Any.rd0 70 at70 rfl rfl (O.pickF (v := .bool _) rfl rfl) (by kernel_rfl) (by kernel_rfl) (by kernel_rfl) ?_
                        refine Any.rd0 71 at71 rfl rfl (O.pickF (v := .bool _) rfl rfl) (by kernel_rfl) (by kernel_rfl) (by kernel_rfl) ?_
                        refine Any.rd0 72 at72 rfl rfl (O.assign (v := .bool _) rfl) (by kernel_rfl) (by kernel_rfl) (by kernel_rfl) ?_
                        refine Any.done (by kernel_rfl) ⟨⟨⟨⟨⟨⟨trivial, hrd66.app⟩, hrd67.app⟩, hrd69.app⟩, hrd71.app⟩, hrd73.app⟩, hrd81.app⟩ ?_
                        refine hK64 ?_
                        refine Cd.region [0, 1, 2] rfl ?_
                        refine Seq.rd0 at0 rfl rfl (O.move (v := .int .i64 _) (by exact s49)) ?_
                        refine Seq.rd0 at1 rfl rfl (O.add rfl rfl (by omega) (by omega)) ?_
                        refine Seq.rd0 at2 rfl rfl (O.assign (v := .int .i64 _) rfl) ?_
                        refine Seq.nil ?_
                        exact hK60 _ (by omega) ⟨k + 1, false, rfl, (by exact s41), (by exact s42), (by exact s43), (by exact s44), (by exact s45), (by exact s46), rfl, (by exact s48), rfl, (by exact s50), (by exact s51), (by exact s52), (by exact s53), (by exact s54), (by exact s55), (by exact s56), (by exact s57), (by exact s58), (by exact s59), rfl, by omega, fun h => Bool.noConfusion h, fun h => ⟨(hcF2 (by assumption)).1, takeP_next (by omega) (hcF2 (by assumption)).2 (by first | exact comW_1 (by assumption) | exact comW_2 (by assumption) | exact comW_3 (by assumption) | exact comW_4 (by assumption) (by assumption) | exact comW_5 (by assumption) (by assumption))⟩⟩
                  · rw [decide_eq_false t72]
                    refine Any.pass 32 at32 rfl rfl (by kernel_rfl) (by kernel_rfl) (by kernel_rfl) ?_
                    refine Any.pass 33 at33 rfl rfl (by kernel_rfl) (by kernel_rfl) (by kernel_rfl) ?_
                    refine Any.pass 34 at34 rfl rfl (by kernel_rfl) (by kernel_rfl) (by kernel_rfl) ?_
                    refine Any.pass 35 at35 rfl rfl (by kernel_rfl) (by kernel_rfl) (by kernel_rfl) ?_
                    refine Any.pass 36 at36 rfl rfl (by kernel_rfl) (by kernel_rfl) (by kernel_rfl) ?_
                    refine Any.pass 37 at37 rfl rfl (by kernel_rfl) (by kernel_rfl) (by kernel_rfl) ?_
                    refine Any.pass 38 at38 rfl rfl (by kernel_rfl) (by kernel_rfl) (by kernel_rfl) ?_
                    refine Any.pass 39 at39 rfl rfl (by kernel_rfl) (by kernel_rfl) (by kernel_rfl) ?_
                    refine Any.pass 40 at40 rfl rfl (by kernel_rfl) (by kernel_rfl) (by kernel_rfl) ?_
                    refine Any.pass 41 at41 rfl rfl (by kernel_rfl) (by kernel_rfl) (by kernel_rfl) ?_
                    refine Any.pass 42 at42 rfl rfl (by kernel_rfl) (by kernel_rfl) (by kernel_rfl) ?_
                    refine Any.pass 43 at43 rfl rfl (by kernel_rfl) (by kernel_rfl) (by kernel_rfl) ?_
                    refine Any.pass 44 at44 rfl rfl (by kernel_rfl) (by kernel_rfl) (by kernel_rfl) ?_
                    refine Any.pass 45 at45 rfl rfl (by kernel_rfl) (by kernel_rfl) (by kernel_rfl) ?_
                    refine Any.rd0 46 at46 rfl rfl (O.pickF (v := .bool _) rfl rfl) (by kernel_rfl) (by kernel_rfl) (by kernel_rfl) ?_
                    refine Any.rd0 47 at47 rfl rfl (O.move (v := .bool _) rfl) (by kernel_rfl) (by kernel_rfl) (by kernel_rfl) ?_
                    refine Any.pass 48 at48 rfl rfl (by kernel_rfl) (by kernel_rfl) (by kernel_rfl) ?_
                    refine Any.pass 49 at49 rfl rfl (by kernel_rfl) (by kernel_rfl) (by kernel_rfl) ?_
                    refine Any.pass 50 at50 rfl rfl (by kernel_rfl) (by kernel_rfl) (by kernel_rfl) ?_
                    refine Any.pass 51 at51 rfl rfl (by kernel_rfl) (by kernel_rfl) (by kernel_rfl) ?_
                    refine Any.pass 52 at52 rfl rfl (by kernel_rfl) (by kernel_rfl) (by kernel_rfl) ?_
                    refine Any.pass 53 at53 rfl rfl (by kernel_rfl) (by kernel_rfl) (by kernel_rfl) ?_
                    refine Any.pass 54 at54 rfl rfl (by kernel_rfl) (by kernel_rfl) (by kernel_rfl) ?_
                    refine Any.pass 55 at55 rfl rfl (by kernel_rfl) (by kernel_rfl) (by kernel_rfl) ?_
                    refine Any.pass 56 at56 rfl rfl (by kernel_rfl) (by kernel_rfl) (by kernel_rfl) ?_
                    refine Any.pass 57 at57 rfl rfl (by kernel_rfl) (by kernel_rfl) (by kernel_rfl) ?_
                    refine Any.pass 58 at58 rfl rfl (by kernel_rfl) (by kernel_rfl) (by kernel_rfl) ?_
                    refine Any.pass 59 at59 rfl rfl (by kernel_rfl) (by kernel_rfl) (by kernel_rfl) ?_
                    refine Any.pass 60 at60 rfl rfl (by kernel_rfl) (by kernel_rfl) (by kernel_rfl) ?_
                    refine Any.pass 61 at61 rfl rfl (by kernel_rfl) (by kernel_rfl) (by kernel_rfl) ?_
                    refine Any.rd0 62 at62 rfl rfl (O.pickF (v := .bool _) rfl rfl) (by kernel_rfl) (by kernel_rfl) (by kernel_rfl) ?_
                    refine Any.rd0 63 at63 rfl rfl (O.move (v := .bool _) rfl) (by kernel_rfl) (by kernel_rfl) (by kernel_rfl) ?_
                    refine Any.pass 64 at64 rfl rfl (by kernel_rfl) (by kernel_rfl) (by kernel_rfl) ?_
                    refine Any.pass 65 at65 rfl rfl (by kernel_rfl) (by kernel_rfl) (by kernel_rfl) ?_
                    refine Any.pass 66 at66 rfl rfl (by kernel_rfl) (by kernel_rfl) (by kernel_rfl) ?_
                    refine Any.pass 67 at67 rfl rfl (by kernel_rfl) (by kernel_rfl) (by kernel_rfl) ?_
                    refine Any.pass 68 at68 rfl rfl (by kernel_rfl) (by kernel_rfl) (by kernel_rfl) ?_
                    refine Any.pass 69 at69 rfl rfl (by kernel_rfl) (by kernel_rfl) (by kernel_rfl) ?_
                    refine Any.rd0 70 at70 rfl rfl (O.pickF (v := .bool _) rfl rfl) (by kernel_rfl) (by kernel_rfl) (by kernel_rfl) ?_
                    refine Any.rd0 71 at71 rfl rfl (O.pickF (v := .bool _) rfl rfl) (by kernel_rfl) (by kernel_rfl) (by kernel_rfl) ?_
                    refine Any.rd0 72 at72 rfl rfl (O.assign (v := .bool _) rfl) (by kernel_rfl) (by kernel_rfl) (by kernel_rfl) ?_
                    refine Any.done (by kernel_rfl) ⟨⟨⟨⟨trivial, hrd66.app⟩, hrd67.app⟩, hrd69.app⟩, hrd71.app⟩ ?_
                    refine hK64 ?_
                    refine Cd.region [0, 1, 2] rfl ?_
                    refine Seq.rd0 at0 rfl rfl (O.move (v := .int .i64 _) (by exact s49)) ?_
                    refine Seq.rd0 at1 rfl rfl (O.add rfl rfl (by omega) (by omega)) ?_
                    refine Seq.rd0 at2 rfl rfl (O.assign (v := .int .i64 _) rfl) ?_
                    refine Seq.nil ?_
                    exact hK60 _ (by omega) ⟨k + 1, false, rfl, (by exact s41), (by exact s42), (by exact s43), (by exact s44), (by exact s45), (by exact s46), rfl, (by exact s48), rfl, (by exact s50), (by exact s51), (by exact s52), (by exact s53), (by exact s54), (by exact s55), (by exact s56), (by exact s57), (by exact s58), (by exact s59), rfl, by omega, fun h => Bool.noConfusion h, fun h => ⟨(hcF2 (by assumption)).1, takeP_next (by omega) (hcF2 (by assumption)).2 (by first | exact comW_1 (by assumption) | exact comW_2 (by assumption) | exact comW_3 (by assumption) | exact comW_4 (by assumption) (by assumption) | exact comW_5 (by assumption) (by assumption))⟩⟩
                · rw [decide_eq_false t70]
                  refine Any.pass 23 at23 rfl rfl (by kernel_rfl) (by kernel_rfl) (by kernel_rfl) ?_
                  refine Any.pass 24 at24 rfl rfl (by kernel_rfl) (by kernel_rfl) (by kernel_rfl) ?_
                  refine Any.pass 25 at25 rfl rfl (by kernel_rfl) (by kernel_rfl) (by kernel_rfl) ?_
                  refine Any.pass 26 at26 rfl rfl (by kernel_rfl) (by kernel_rfl) (by kernel_rfl) ?_
                  refine Any.pass 27 at27 rfl rfl (by kernel_rfl) (by kernel_rfl) (by kernel_rfl) ?_
                  refine Any.pass 28 at28 rfl rfl (by kernel_rfl) (by kernel_rfl) (by kernel_rfl) ?_
                  refine Any.pass 29 at29 rfl rfl (by kernel_rfl) (by kernel_rfl) (by kernel_rfl) ?_
                  refine Any.rd0 30 at30 rfl rfl (O.pickF (v := .bool _) rfl rfl) (by kernel_rfl) (by kernel_rfl) (by kernel_rfl) ?_
                  refine Any.rd0 31 at31 rfl rfl (O.move (v := .bool _) rfl) (by kernel_rfl) (by kernel_rfl) (by kernel_rfl) ?_
                  refine Any.pass 32 at32 rfl rfl (by kernel_rfl) (by kernel_rfl) (by kernel_rfl) ?_
                  refine Any.pass 33 at33 rfl rfl (by kernel_rfl) (by kernel_rfl) (by kernel_rfl) ?_
                  refine Any.pass 34 at34 rfl rfl (by kernel_rfl) (by kernel_rfl) (by kernel_rfl) ?_
                  refine Any.pass 35 at35 rfl rfl (by kernel_rfl) (by kernel_rfl) (by kernel_rfl) ?_
                  refine Any.pass 36 at36 rfl rfl (by kernel_rfl) (by kernel_rfl) (by kernel_rfl) ?_
                  refine Any.pass 37 at37 rfl rfl (by kernel_rfl) (by kernel_rfl) (by kernel_rfl) ?_
                  refine Any.pass 38 at38 rfl rfl (by kernel_rfl) (by kernel_rfl) (by kernel_rfl) ?_
                  refine Any.pass 39 at39 rfl rfl (by kernel_rfl) (by kernel_rfl) (by kernel_rfl) ?_
                  refine Any.pass 40 at40 rfl rfl (by kernel_rfl) (by kernel_rfl) (by kernel_rfl) ?_
                  refine Any.pass 41 at41 rfl rfl (by kernel_rfl) (by kernel_rfl) (by kernel_rfl) ?_
                  refine Any.pass 42 at42 rfl rfl (by kernel_rfl) (by kernel_rfl) (by kernel_rfl) ?_
                  refine Any.pass 43 at43 rfl rfl (by kernel_rfl) (by kernel_rfl) (by kernel_rfl) ?_
                  refine Any.pass 44 at44 rfl rfl (by kernel_rfl) (by kernel_rfl) (by kernel_rfl) ?_
                  refine Any.pass 45 at45 rfl rfl (by kernel_rfl) (by kernel_rfl) (by kernel_rfl) ?_
                  refine Any.rd0 46 at46 rfl rfl (O.pickF (v := .bool _) rfl rfl) (by kernel_rfl) (by kernel_rfl) (by kernel_rfl) ?_
                  refine Any.rd0 47 at47 rfl rfl (O.move (v := .bool _) rfl) (by kernel_rfl) (by kernel_rfl) (by kernel_rfl) ?_
                  refine Any.pass 48 at48 rfl rfl (by kernel_rfl) (by kernel_rfl) (by kernel_rfl) ?_
                  refine Any.pass 49 at49 rfl rfl (by kernel_rfl) (by kernel_rfl) (by kernel_rfl) ?_
                  refine Any.pass 50 at50 rfl rfl (by kernel_rfl) (by kernel_rfl) (by kernel_rfl) ?_
                  refine Any.pass 51 at51 rfl rfl (by kernel_rfl) (by kernel_rfl) (by kernel_rfl) ?_
                  refine Any.pass 52 at52 rfl rfl (by kernel_rfl) (by kernel_rfl) (by kernel_rfl) ?_
                  refine Any.pass 53 at53 rfl rfl (by kernel_rfl) (by kernel_rfl) (by kernel_rfl) ?_
                  refine Any.pass 54 at54 rfl rfl (by kernel_rfl) (by kernel_rfl) (by kernel_rfl) ?_
                  refine Any.pass 55 at55 rfl rfl (by kernel_rfl) (by kernel_rfl) (by kernel_rfl) ?_
                  refine Any.pass 56 at56 rfl rfl (by kernel_rfl) (by kernel_rfl) (by kernel_rfl) ?_
                  refine Any.pass 57 at57 rfl rfl (by kernel_rfl) (by kernel_rfl) (by kernel_rfl) ?_
                  refine Any.pass 58 at58 rfl rfl (by kernel_rfl) (by kernel_rfl) (by kernel_rfl) ?_
                  refine Any.pass 59 at59 rfl rfl (by kernel_rfl) (by kernel_rfl) (by kernel_rfl) ?_
                  refine Any.pass 60 at60 rfl rfl (by kernel_rfl) (by kernel_rfl) (by kernel_rfl) ?_
                  refine Any.pass 61 at61 rfl rfl (by kernel_rfl) (by kernel_rfl) (by kernel_rfl) ?_
                  refine Any.rd0 62 at62 rfl rfl (O.pickF (v := .bool _) rfl rfl) (by kernel_rfl) (by kernel_rfl) (by kernel_rfl) ?_
                  refine Any.rd0 63 at63 rfl rfl (O.move (v := .bool _) rfl) (by kernel_rfl) (by kernel_rfl) (by kernel_rfl) ?_
                  refine Any.pass 64 at64 rfl rfl (by kernel_rfl) (by kernel_rfl) (by kernel_rfl) ?_
                  refine Any.pass 65 at65 rfl rfl (by kernel_rfl) (by kernel_rfl) (by kernel_rfl) ?_
                  refine Any.pass 66 at66 rfl rfl (by kernel_rfl) (by kernel_rfl) (by kernel_rfl) ?_
                  refine Any.pass 67 at67 rfl rfl (by kernel_rfl) (by kernel_rfl) (by kernel_rfl) ?_
                  refine Any.pass 68 at68 rfl rfl (by kernel_rfl) (by kernel_rfl) (by kernel_rfl) ?_
                  refine Any.pass 69 at69 rfl rfl (by kernel_rfl) (by kernel_rfl) (by kernel_rfl) ?_
                  refine Any.rd0 70 at70 rfl rfl (O.pickF (v := .bool _) rfl rfl) (by kernel_rfl) (by kernel_rfl) (by kernel_rfl) ?_
                  refine Any.rd0 71 at71 rfl rfl (O.pickF (v := .bool _) rfl rfl) (by kernel_rfl) (by kernel_rfl) (by kernel_rfl) ?_
                  refine Any.rd0 72 at72 rfl rfl (O.assign (v := .bool _) rfl) (by kernel_rfl) (by kernel_rfl) (by kernel_rfl) ?_
                  refine Any.done (by kernel_rfl) ⟨⟨⟨trivial, hrd66.app⟩, hrd67.app⟩, hrd69.app⟩ ?_
                  refine hK64 ?_
                  refine Cd.region [0, 1, 2] rfl ?_
                  refine Seq.rd0 at0 rfl rfl (O.move (v := .int .i64 _) (by exact s49)) ?_
                  refine Seq.rd0 at1 rfl rfl (O.add rfl rfl (by omega) (by omega)) ?_
                  refine Seq.rd0 at2 rfl rfl (O.assign (v := .int .i64 _) rfl) ?_
                  refine Seq.nil ?_
                  exact hK60 _ (by omega) ⟨k + 1, false, rfl, (by exact s41), (by exact s42), (by exact s43), (by exact s44), (by exact s45), (by exact s46), rfl, (by exact s48), rfl, (by exact s50), (by exact s51), (by exact s52), (by exact s53), (by exact s54), (by exact s55), (by exact s56), (by exact s57), (by exact s58), (by exact s59), rfl, by omega, fun h => Bool.noConfusion h, fun h => ⟨(hcF2 (by assumption)).1, takeP_next (by omega) (hcF2 (by assumption)).2 (by first | exact comW_1 (by assumption) | exact comW_2 (by assumption) | exact comW_3 (by assumption) | exact comW_4 (by assumption) (by assumption) | exact comW_5 (by assumption) (by assumption))⟩⟩
              · rw [decide_eq_false t68]
                refine Any.pass 14 at14 rfl rfl (by kernel_rfl) (by kernel_rfl) (by kernel_rfl) ?_
                refine Any.pass 15 at15 rfl rfl (by kernel_rfl) (by kernel_rfl) (by kernel_rfl) ?_
                refine Any.pass 16 at16 rfl rfl (by kernel_rfl) (by kernel_rfl) (by kernel_rfl) ?_
                refine Any.pass 17 at17 rfl rfl (by kernel_rfl) (by kernel_rfl) (by kernel_rfl) ?_
                refine Any.pass 18 at18 rfl rfl (by kernel_rfl) (by kernel_rfl) (by kernel_rfl) ?_
                refine Any.pass 19 at19 rfl rfl (by kernel_rfl) (by kernel_rfl) (by kernel_rfl) ?_
                refine Any.pass 20 at20 rfl rfl (by kernel_rfl) (by kernel_rfl) (by kernel_rfl) ?_
                refine Any.rd0 21 at21 rfl rfl (O.pickF (v := .bool _) rfl rfl) (by kernel_rfl) (by kernel_rfl) (by kernel_rfl) ?_
                refine Any.rd0 22 at22 rfl rfl (O.move (v := .bool _) rfl) (by kernel_rfl) (by kernel_rfl) (by kernel_rfl) ?_
                refine Any.pass 23 at23 rfl rfl (by kernel_rfl) (by kernel_rfl) (by kernel_rfl) ?_
                refine Any.pass 24 at24 rfl rfl (by kernel_rfl) (by kernel_rfl) (by kernel_rfl) ?_
                refine Any.pass 25 at25 rfl rfl (by kernel_rfl) (by kernel_rfl) (by kernel_rfl) ?_
                refine Any.pass 26 at26 rfl rfl (by kernel_rfl) (by kernel_rfl) (by kernel_rfl) ?_
                refine Any.pass 27 at27 rfl rfl (by kernel_rfl) (by kernel_rfl) (by kernel_rfl) ?_
                refine Any.pass 28 at28 rfl rfl (by kernel_rfl) (by kernel_rfl) (by kernel_rfl) ?_
                refine Any.pass 29 at29 rfl rfl (by kernel_rfl) (by kernel_rfl) (by kernel_rfl) ?_
                refine Any.rd0 30 at30 rfl rfl (O.pickF (v := .bool _) rfl rfl) (by kernel_rfl) (by kernel_rfl) (by kernel_rfl) ?_
                refine Any.rd0 31 at31 rfl rfl (O.move (v := .bool _) rfl) (by kernel_rfl) (by kernel_rfl) (by kernel_rfl) ?_
                refine Any.pass 32 at32 rfl rfl (by kernel_rfl) (by kernel_rfl) (by kernel_rfl) ?_
                refine Any.pass 33 at33 rfl rfl (by kernel_rfl) (by kernel_rfl) (by kernel_rfl) ?_
                refine Any.pass 34 at34 rfl rfl (by kernel_rfl) (by kernel_rfl) (by kernel_rfl) ?_
                refine Any.pass 35 at35 rfl rfl (by kernel_rfl) (by kernel_rfl) (by kernel_rfl) ?_
                refine Any.pass 36 at36 rfl rfl (by kernel_rfl) (by kernel_rfl) (by kernel_rfl) ?_
                refine Any.pass 37 at37 rfl rfl (by kernel_rfl) (by kernel_rfl) (by kernel_rfl) ?_
                refine Any.pass 38 at38 rfl rfl (by kernel_rfl) (by kernel_rfl) (by kernel_rfl) ?_
                refine Any.pass 39 at39 rfl rfl (by kernel_rfl) (by kernel_rfl) (by kernel_rfl) ?_
                refine Any.pass 40 at40 rfl rfl (by kernel_rfl) (by kernel_rfl) (by kernel_rfl) ?_
                refine Any.pass 41 at41 rfl rfl (by kernel_rfl) (by kernel_rfl) (by kernel_rfl) ?_
                refine Any.pass 42 at42 rfl rfl (by kernel_rfl) (by kernel_rfl) (by kernel_rfl) ?_
                refine Any.pass 43 at43 rfl rfl (by kernel_rfl) (by kernel_rfl) (by kernel_rfl) ?_
                refine Any.pass 44 at44 rfl rfl (by kernel_rfl) (by kernel_rfl) (by kernel_rfl) ?_
                refine Any.pass 45 at45 rfl rfl (by kernel_rfl) (by kernel_rfl) (by kernel_rfl) ?_
                refine Any.rd0 46 at46 rfl rfl (O.pickF (v := .bool _) rfl rfl) (by kernel_rfl) (by kernel_rfl) (by kernel_rfl) ?_
                refine Any.rd0 47 at47 rfl rfl (O.move (v := .bool _) rfl) (by kernel_rfl) (by kernel_rfl) (by kernel_rfl) ?_
                refine Any.pass 48 at48 rfl rfl (by kernel_rfl) (by kernel_rfl) (by kernel_rfl) ?_
                refine Any.pass 49 at49 rfl rfl (by kernel_rfl) (by kernel_rfl) (by kernel_rfl) ?_
                refine Any.pass 50 at50 rfl rfl (by kernel_rfl) (by kernel_rfl) (by kernel_rfl) ?_
                refine Any.pass 51 at51 rfl rfl (by kernel_rfl) (by kernel_rfl) (by kernel_rfl) ?_
                refine Any.pass 52 at52 rfl rfl (by kernel_rfl) (by kernel_rfl) (by kernel_rfl) ?_
                refine Any.pass 53 at53 rfl rfl (by kernel_rfl) (by kernel_rfl) (by kernel_rfl) ?_
                refine Any.pass 54 at54 rfl rfl (by kernel_rfl) (by kernel_rfl) (by kernel_rfl) ?_
                refine Any.pass 55 at55 rfl rfl (by kernel_rfl) (by kernel_rfl) (by kernel_rfl) ?_
                refine Any.pass 56 at56 rfl rfl (by kernel_rfl) (by kernel_rfl) (by kernel_rfl) ?_
                refine Any.pass 57 at57 rfl rfl (by kernel_rfl) (by kernel_rfl) (by kernel_rfl) ?_
                refine Any.pass 58 at58 rfl rfl (by kernel_rfl) (by kernel_rfl) (by kernel_rfl) ?_
                refine Any.pass 59 at59 rfl rfl (by kernel_rfl) (by kernel_rfl) (by kernel_rfl) ?_
                refine Any.pass 60 at60 rfl rfl (by kernel_rfl) (by kernel_rfl) (by kernel_rfl) ?_
                refine Any.pass 61 at61 rfl rfl (by kernel_rfl) (by kernel_rfl) (by kernel_rfl) ?_
                refine Any.rd0 62 at62 rfl rfl (O.pickF (v := .bool _) rfl rfl) (by kernel_rfl) (by kernel_rfl) (by kernel_rfl) ?_
                refine Any.rd0 63 at63 rfl rfl (O.move (v := .bool _) rfl) (by kernel_rfl) (by kernel_rfl) (by kernel_rfl) ?_
                refine Any.pass 64 at64 rfl rfl (by kernel_rfl) (by kernel_rfl) (by kernel_rfl) ?_
                refine Any.pass 65 at65 rfl rfl (by kernel_rfl) (by kernel_rfl) (by kernel_rfl) ?_
                refine Any.pass 66 at66 rfl rfl (by kernel_rfl) (by kernel_rfl) (by kernel_rfl) ?_
                refine Any.pass 67 at67 rfl rfl (by kernel_rfl) (by kernel_rfl) (by kernel_rfl) ?_
                refine Any.pass 68 at68 rfl rfl (by kernel_rfl) (by kernel_rfl) (by kernel_rfl) ?_
                refine Any.pass 69 at69 rfl rfl (by kernel_rfl) (by kernel_rfl) (by kernel_rfl) ?_
                refine Any.rd0 70 at70 rfl rfl (O.pickF (v := .bool _) rfl rfl) (by kernel_rfl) (by kernel_rfl) (by kernel_rfl) ?_
                refine Any.rd0 71 at71 rfl rfl (O.pickF (v := .bool _) rfl rfl) (by kernel_rfl) (by kernel_rfl) (by kernel_rfl) ?_
                refine Any.rd0 72 at72 rfl rfl (O.assign (v := .bool _) rfl) (by kernel_rfl) (by kernel_rfl) (by kernel_rfl) ?_
                refine Any.done (by kernel_rfl) ⟨⟨trivial, hrd66.app⟩, hrd67.app⟩ ?_
                refine hK64 ?_
                refine Cd.region [0, 1, 2] rfl ?_
                refine Seq.rd0 at0 rfl rfl (O.move (v := .int .i64 _) (by exact s49)) ?_
                refine Seq.rd0 at1 rfl rfl (O.add rfl rfl (by omega) (by omega)) ?_
                refine Seq.rd0 at2 rfl rfl (O.assign (v := .int .i64 _) rfl) ?_
                refine Seq.nil ?_
                exact hK60 _ (by omega) ⟨k + 1, false, rfl, (by exact s41), (by exact s42), (by exact s43), (by exact s44), (by exact s45), (by exact s46), rfl, (by exact s48), rfl, (by exact s50), (by exact s51), (by exact s52), (by exact s53), (by exact s54), (by exact s55), (by exact s56), (by exact s57), (by exact s58), (by exact s59), rfl, by omega, fun h => Bool.noConfusion h, fun h => ⟨(hcF2 (by assumption)).1, takeP_next (by omega) (hcF2 (by assumption)).2 (by first | exact comW_1 (by assumption) | exact comW_2 (by assumption) | exact comW_3 (by assumption) | exact comW_4 (by assumption) (by assumption) | exact comW_5 (by assumption) (by assumption))⟩⟩
            · skip
              refine Any.pass 2 at2 rfl rfl (by kernel_rfl) (by kernel_rfl) (by kernel_rfl) ?_
              refine Any.pass 3 at3 rfl rfl (by kernel_rfl) (by kernel_rfl) (by kernel_rfl) ?_
              refine Any.pass 4 at4 rfl rfl (by kernel_rfl) (by kernel_rfl) (by kernel_rfl) ?_
              refine Any.pass 5 at5 rfl rfl (by kernel_rfl) (by kernel_rfl) (by kernel_rfl) ?_
              refine Any.pass 6 at6 rfl rfl (by kernel_rfl) (by kernel_rfl) (by kernel_rfl) ?_
              refine Any.pass 7 at7 rfl rfl (by kernel_rfl) (by kernel_rfl) (by kernel_rfl) ?_
              refine Any.pass 8 at8 rfl rfl (by kernel_rfl) (by kernel_rfl) (by kernel_rfl) ?_
              refine Any.pass 9 at9 rfl rfl (by kernel_rfl) (by kernel_rfl) (by kernel_rfl) ?_
              refine Any.pass 10 at10 rfl rfl (by kernel_rfl) (by kernel_rfl) (by kernel_rfl) ?_
              refine Any.pass 11 at11 rfl rfl (by kernel_rfl) (by kernel_rfl) (by kernel_rfl) ?_
              refine Any.pass 12 at12 rfl rfl (by kernel_rfl) (by kernel_rfl) (by kernel_rfl) ?_
              refine Any.pass 13 at13 rfl rfl (by kernel_rfl) (by kernel_rfl) (by kernel_rfl) ?_
              refine Any.pass 14 at14 rfl rfl (by kernel_rfl) (by kernel_rfl) (by kernel_rfl) ?_
              refine Any.pass 15 at15 rfl rfl (by kernel_rfl) (by kernel_rfl) (by kernel_rfl) ?_
              refine Any.pass 16 at16 rfl rfl (by kernel_rfl) (by kernel_rfl) (by kernel_rfl) ?_
              refine Any.pass 17 at17 rfl rfl (by kernel_rfl) (by kernel_rfl) (by kernel_rfl) ?_
              refine Any.pass 18 at18 rfl rfl (by kernel_rfl) (by kernel_rfl) (by kernel_rfl) ?_
              refine Any.pass 19 at19 rfl rfl (by kernel_rfl) (by kernel_rfl) (by kernel_rfl) ?_
              refine Any.pass 20 at20 rfl rfl (by kernel_rfl) (by kernel_rfl) (by kernel_rfl) ?_
              refine Any.pass 21 at21 rfl rfl (by kernel_rfl) (by kernel_rfl) (by kernel_rfl) ?_
              refine Any.pass 22 at22 rfl rfl (by kernel_rfl) (by kernel_rfl) (by kernel_rfl) ?_
              refine Any.pass 23 at23 rfl rfl (by kernel_rfl) (by kernel_rfl) (by kernel_rfl) ?_
              refine Any.pass 24 at24 rfl rfl (by kernel_rfl) (by kernel_rfl) (by kernel_rfl) ?_
              refine Any.pass 25 at25 rfl rfl (by kernel_rfl) (by kernel_rfl) (by kernel_rfl) ?_
              refine Any.pass 26 at26 rfl rfl (by kernel_rfl) (by kernel_rfl) (by kernel_rfl) ?_
              refine Any.pass 27 at27 rfl rfl (by kernel_rfl) (by kernel_rfl) (by kernel_rfl) ?_
              refine Any.pass 28 at28 rfl rfl (by kernel_rfl) (by kernel_rfl) (by kernel_rfl) ?_
              refine Any.pass 29 at29 rfl rfl (by kernel_rfl) (by kernel_rfl) (by kernel_rfl) ?_
              refine Any.pass 30 at30 rfl rfl (by kernel_rfl) (by kernel_rfl) (by kernel_rfl) ?_
              refine Any.pass 31 at31 rfl rfl (by kernel_rfl) (by kernel_rfl) (by kernel_rfl) ?_
              refine Any.pass 32 at32 rfl rfl (by kernel_rfl) (by kernel_rfl) (by kernel_rfl) ?_
              refine Any.pass 33 at33 rfl rfl (by kernel_rfl) (by kernel_rfl) (by kernel_rfl) ?_
              refine Any.pass 34 at34 rfl rfl (by kernel_rfl) (by kernel_rfl) (by kernel_rfl) ?_
              refine Any.pass 35 at35 rfl rfl (by kernel_rfl) (by kernel_rfl) (by kernel_rfl) ?_
              refine Any.pass 36 at36 rfl rfl (by kernel_rfl) (by kernel_rfl) (by kernel_rfl) ?_
              refine Any.pass 37 at37 rfl rfl (by kernel_rfl) (by kernel_rfl) (by kernel_rfl) ?_
              refine Any.pass 38 at38 rfl rfl (by kernel_rfl) (by kernel_rfl) (by kernel_rfl) ?_
              refine Any.pass 39 at39 rfl rfl (by kernel_rfl) (by kernel_rfl) (by kernel_rfl) ?_
              refine Any.pass 40 at40 rfl rfl (by kernel_rfl) (by kernel_rfl) (by kernel_rfl) ?_
              refine Any.pass 41 at41 rfl rfl (by kernel_rfl) (by kernel_rfl) (by kernel_rfl) ?_
              refine Any.pass 42 at42 rfl rfl (by kernel_rfl) (by kernel_rfl) (by kernel_rfl) ?_
              refine Any.pass 43 at43 rfl rfl (by kernel_rfl) (by kernel_rfl) (by kernel_rfl) ?_
              refine Any.pass 44 at44 rfl rfl (by kernel_rfl) (by kernel_rfl) (by kernel_rfl) ?_
              refine Any.pass 45 at45 rfl rfl (by kernel_rfl) (by kernel_rfl) (by kernel_rfl) ?_
              refine Any.pass 46 at46 rfl rfl (by kernel_rfl) (by kernel_rfl) (by kernel_rfl) ?_
              refine Any.pass 47 at47 rfl rfl (by kernel_rfl) (by kernel_rfl) (by kernel_rfl) ?_
              refine Any.pass 48 at48 rfl rfl (by kernel_rfl) (by kernel_rfl) (by kernel_rfl) ?_
              refine Any.pass 49 at49 rfl rfl (by kernel_rfl) (by kernel_rfl) (by kernel_rfl) ?_
              refine Any.pass 50 at50 rfl rfl (by kernel_rfl) (by kernel_rfl) (by kernel_rfl) ?_
              refine Any.pass 51 at51 rfl rfl (by kernel_rfl) (by kernel_rfl) (by kernel_rfl) ?_
              refine Any.pass 52 at52 rfl rfl (by kernel_rfl) (by kernel_rfl) (by kernel_rfl) ?_
              refine Any.pass 53 at53 rfl rfl (by kernel_rfl) (by kernel_rfl) (by kernel_rfl) ?_
              refine Any.pass 54 at54 rfl rfl (by kernel_rfl) (by kernel_rfl) (by kernel_rfl) ?_
              refine Any.pass 55 at55 rfl rfl (by kernel_rfl) (by kernel_rfl) (by kernel_rfl) ?_
              refine Any.pass 56 at56 rfl rfl (by kernel_rfl) (by kernel_rfl) (by kernel_rfl) ?_
              refine Any.pass 57 at57 rfl rfl (by kernel_rfl) (by kernel_rfl) (by kernel_rfl) ?_
              refine Any.pass 58 at58 rfl rfl (by kernel_rfl) (by kernel_rfl) (by kernel_rfl) ?_
              refine Any.pass 59 at59 rfl rfl (by kernel_rfl) (by kernel_rfl) (by kernel_rfl) ?_
              refine Any.pass 60 at60 rfl rfl (by kernel_rfl) (by kernel_rfl) (by kernel_rfl) ?_
              refine Any.pass 61 at61 rfl rfl (by kernel_rfl) (by kernel_rfl) (by kernel_rfl) ?_
              refine Any.pass 62 at62 rfl rfl (by kernel_rfl) (by kernel_rfl) (by kernel_rfl) ?_
              refine Any.pass 63 at63 rfl rfl (by kernel_rfl) (by kernel_rfl) (by kernel_rfl) ?_
              refine Any.pass 64 at64 rfl rfl (by kernel_rfl) (by kernel_rfl) (by kernel_rfl) ?_
              refine Any.pass 65 at65 rfl rfl (by kernel_rfl) (by kernel_rfl) (by kernel_rfl) ?_
              refine Any.pass 66 at66 rfl rfl (by kernel_rfl) (by kernel_rfl) (by kernel_rfl) ?_
              refine Any.pass 67 at67 rfl rfl (by kernel_rfl) (by kernel_rfl) (by kernel_rfl) ?_
              refine Any.pass 68 at68 rfl rfl (by kernel_rfl) (by kernel_rfl) (by kernel_rfl) ?_
              refine Any.pass 69 at69 rfl rfl (by kernel_rfl) (by kernel_rfl) (by kernel_rfl) ?_
              refine Any.pass 70 at70 rfl rfl (by kernel_rfl) (by kernel_rfl) (by kernel_rfl) ?_
              refine Any.rd0 71 at71 rfl rfl (O.pickT (v := .bool _) rfl rfl) (by kernel_rfl) (by kernel_rfl) (by kernel_rfl) ?_
              refine Any.rd0 72 at72 rfl rfl (O.assign (v := .bool _) rfl) (by kernel_rfl) (by kernel_rfl) (by kernel_rfl) ?_
              refine Any.done (by kernel_rfl) trivial ?_
              refine hK64 ?_
              refine Cd.region [0, 1, 2] rfl ?_
              refine Seq.rd0 at0 rfl rfl (O.move (v := .int .i64 _) (by exact s49)) ?_
              refine Seq.rd0 at1 rfl rfl (O.add rfl rfl (by omega) (by omega)) ?_
              refine Seq.rd0 at2 rfl rfl (O.assign (v := .int .i64 _) rfl) ?_
              refine Seq.nil ?_
              exact hK60 _ (by omega) ⟨k + 1, true, rfl, (by exact s41), (by exact s42), (by exact s43), (by exact s44), (by exact s45), (by exact s46), rfl, (by exact s48), rfl, (by exact s50), (by exact s51), (by exact s52), (by exact s53), (by exact s54), (by exact s55), (by exact s56), (by exact s57), (by exact s58), (by exact s59), rfl, by omega, fun h => hcT2 (by assumption), fun h => by first | exact Bool.noConfusion h | simp_all⟩
          · skip
            refine Cd.exit ?_
            refine hK34 ?_
            refine Cd.region [0, 1, 2] rfl ?_
            refine Seq.rd0 at0 rfl rfl (O.move (v := .int .i64 _) (by exact s48)) ?_
            refine Seq.rd0 at1 rfl rfl (O.add rfl rfl (by omega) (by omega)) ?_
            refine Seq.rd0 at2 rfl rfl (O.assign (v := .int .i64 _) rfl) ?_
            refine Seq.nil ?_
            exact hK30 _ (by omega) ⟨i + 1, com2, (afterS xl3 (⟨bg1 + 1, hib⟩ : I64) us[i]), Ls4, rfl, (by exact s41), (by exact s42), (by exact s43), (by exact s44), (by exact s45), (by exact s46), (by exact s47), rfl, rfl, by omega, hS4, by rw [afterS_at hlx, wsAll_snoc (by omega)], by rw [afterS_ne hne]; exact hly, hcT2, fun h => takeP_next (by omega) (hcF2 h).1 (by have h9 := (hcF2 h).2; rw [List.take_of_length_le (by omega)] at h9; exact h9)⟩
        · skip
          refine Cd.exit ?_
          refine hK17 ?_
          refine Cd.seq (fun K89 hK89 => ?_)
          refine Cd.seq (fun K90 hK90 => ?_)
          refine Cd.region [0] rfl ?_
          refine Seq.rd0 at0 rfl rfl (O.assign (v := .int .i64 _) rfl) ?_
          refine Seq.nil ?_
          refine hK90 ?_
          refine Cd.block ?_
          have hiu : i = us.length := by omega
          rw [hiu, List.take_length] at hlx hcF
          refine Cd.loop (fun m91 e92 L93 => ∃ j : Nat, ∃ xl5 : List (I64 × TX), ∃ Ls5 : List Pt, m91 = vs.length - j ∧ e92 2 = .slice aw nv cv ∧ e92 6 = .bool false ∧ e92 7 = .pointer (some ⟨p, 0, none⟩) ∧ e92 8 = .int .i64 (bg1 + 1) ∧ e92 10 = .int .i64 (bg1 + 1 + 1) ∧ e92 12 = .bool com ∧ e92 15 = .int .i64 (j : Int) ∧ L93 = (Ls5 ++ (L)) ∧ j ≤ vs.length ∧ SoOwn p l1 xl5 (bg1 + 1 + 1) la1 Ls5 ∧ alook xl5 (⟨bg1 + 1, hib⟩ : I64) = some (xa, (⟨la1, 0⟩, wsAll [] us)) ∧ alook xl5 (⟨bg1 + 1 + 1, hib2⟩ : I64) = some (xb, (⟨la1, 0⟩, wsAll [] (vs.take j)))) _ ⟨0, xl3, Ls3, rfl, (by exact s23), (by exact s24), (by exact s25), (by exact s26), (by exact s27), (by exact s28), rfl, rfl, Nat.zero_le _, hS3, hlx, by exact hly⟩ ?_
          rintro _ e92 _ ⟨j, xl5, Ls5, rfl, s94, s95, s96, s97, s98, s99, s100, rfl, hj, hS5, hlx5, hly5⟩ K101 hK101
          refine Cd.seq (fun K102 hK102 => ?_)
          refine Cd.seq (fun K103 hK103 => ?_)
          refine Cd.region [0, 1, 2, 3] rfl ?_
          refine Seq.rd0 at0 rfl rfl (O.move (v := .int .i64 _) (by exact s100)) ?_
          refine Seq.rd0 at1 rfl rfl (O.move (v := .slice _ _ _) (by exact s94)) ?_
          refine Seq.rd0 at2 rfl rfl (O.lenS ds_25 rfl) ?_
          refine Seq.rd0 at3 rfl rfl (O.lss rfl rfl) ?_
          refine Seq.nil ?_
          refine hK103 ?_
          refine Cd.if ((j : Int) < (nv : Int)) rfl (fun t104 => ?_) (fun t104 => ?_)
          · skip
            refine Cd.skip ?_
            refine hK102 ?_
            refine Cd.seq (fun K105 hK105 => ?_)
            refine Cd.block ?_
            refine Cd.region [0, 1, 2, 3, 4, 5, 6] rfl ?_
            refine Seq.rd0 at0 rfl rfl (O.move (v := .pointer _) (by exact s96)) ?_
            refine Seq.rd0 at1 rfl rfl (O.move (v := .int .i64 _) (by exact s98)) ?_
            refine Seq.rd0 at2 rfl rfl (O.move (v := .slice _ _ _) (by exact s94)) ?_
            refine Seq.rd0 at3 rfl rfl (O.move (v := .int .i64 _) (by exact s100)) ?_
            have hlt106 : j < vs.length := by omega
            obtain ⟨pre106, sp106, el106, fz106, hav106, hrd106⟩ := hV.at_ hlt106
            refine Seq.rd0 at4 rfl rfl (O.indexG sl_25 rfl hav106 rfl (by omega) (by omega)) ?_
            refine Seq.rd1 at5 rfl rfl (O.loadA kd_47 rfl (rowRoomP Write_size (getN hlt106)) (rowAtP Write_size (getN hlt106))) hrd106.app ?_
            refine Seq.op at6 rfl (Op.callF rfl hb_54 (Fn.perm (C_So_Put (R := ([]) ++ L) (ti := (⟨bg1 + 1 + 1, hib2⟩ : I64)) (x := vs[j]) hS5) (bring (pre := ([])) (Ls := Ls5) (R := L))) rfl ?_)
            rintro _ _ ⟨rfl, Ls6, hS6, rfl⟩
            refine Ent.perm ?_ (bring (Ls := Ls6) (pre := ([])) (R := L)).symm
            refine Seq.nil ?_
            refine hK105 ?_
            refine Cd.region [0, 1, 2] rfl ?_
            refine Seq.rd0 at0 rfl rfl (O.move (v := .int .i64 _) (by exact s100)) ?_
            refine Seq.rd0 at1 rfl rfl (O.add rfl rfl (by omega) (by omega)) ?_
            refine Seq.rd0 at2 rfl rfl (O.assign (v := .int .i64 _) rfl) ?_
            refine Seq.nil ?_
            exact hK101 _ (by omega) ⟨j + 1, (afterS xl5 (⟨bg1 + 1 + 1, hib2⟩ : I64) vs[j]), Ls6, rfl, (by exact s94), (by exact s95), (by exact s96), (by exact s97), (by exact s98), (by exact s99), rfl, rfl, by omega, hS6, by rw [afterS_ne (Ne.symm hne)]; exact hlx5, by rw [afterS_at hly5, wsAll_snoc (by omega)]⟩
          · skip
            refine Cd.exit ?_
            refine hK89 ?_
            refine Cd.seq (fun K107 hK107 => ?_)
            refine Cd.region [0, 1, 2, 3, 4, 5, 6, 7, 8] rfl ?_
            refine Seq.rd0 at0 rfl rfl (O.move (v := .pointer _) (by exact s96)) ?_
            refine Seq.rd0 at1 rfl rfl (O.move (v := .int .i64 _) (by exact s97)) ?_
            have hjv : j = vs.length := by omega
            rw [hjv, List.take_length] at hly5
            refine Seq.op at2 rfl (Op.callF rfl hb_56 (Fn.perm (C_So_Commit (R := ([]) ++ L) (ti := (⟨bg1 + 1, hib⟩ : I64)) hS5 (by omega)) (bring (pre := ([])) (Ls := Ls5) (R := L))) rfl ?_)
            rintro _ _ ⟨rA, eA, lA, laA, Ls7, rfl, hS7, hcA, rfl⟩
            rw [hlx5] at hcA
            have hleA := hcA.la_le
            have hly7 := (alook_del_ne hne xl5).trans hly5
            refine Ent.perm ?_ (bring (Ls := Ls7) (pre := ([])) (R := L)).symm
            refine Seq.rd0 at3 rfl rfl (O.move (v := .tuple _) rfl) ?_
            refine Seq.rd0 at4 rfl rfl (O.ext rfl r2_0) ?_
            refine Seq.rd0 at5 rfl rfl (O.ext rfl r2_1) ?_
            refine Seq.op at6 rfl (Op.new rfl (O.alloc zo_24 (cs := (Stamp_enc Stamp.zero)) rfl) ?_)
            intro b108 hb108
            refine Seq.op at7 rfl (Op.set0 rfl (O.store kd_24 rfl (v := .agg _) rfl (Stamp_size _) (Stamp_room (Stamp_size _)) (Stamp_one _) (Stamp_put _ (Stamp_size _))) ?_)
            refine Seq.rd0 at8 rfl rfl (O.assign (v := .int .i64 _) rfl) ?_
            refine Seq.nil ?_
            refine hK107 ?_
            refine Cd.seq (fun K109 hK109 => ?_)
            refine Cd.region [0, 1, 2, 3, 4, 5, 6, 7, 8] rfl ?_
            refine Seq.rd0 at0 rfl rfl (O.move (v := .pointer _) (by exact s96)) ?_
            refine Seq.rd0 at1 rfl rfl (O.move (v := .int .i64 _) (by exact s98)) ?_
            refine Seq.op at2 rfl (Op.callF rfl hb_56 (Fn.perm (C_So_Commit (R := ((b108, _) :: []) ++ L) (ti := (⟨bg1 + 1 + 1, hib2⟩ : I64)) hS7 (by omega)) (bring (pre := ((b108, _) :: [])) (Ls := Ls7) (R := L))) rfl ?_)
            rintro _ _ ⟨rB, eB, lB, laB, Ls8, rfl, hS8, hcB, rfl⟩
            rw [hly7] at hcB
            have hfl := first_law hI.top hI.sorted hI.nn (by simp only; omega) (by omega) (by omega) hcA hcB
            refine Ent.perm ?_ (bring (Ls := Ls8) (pre := ((b108, _) :: [])) (R := L)).symm
            refine Seq.rd0 at3 rfl rfl (O.move (v := .tuple _) rfl) ?_
            refine Seq.rd0 at4 rfl rfl (O.ext rfl r2_0) ?_
            refine Seq.rd0 at5 rfl rfl (O.ext rfl r2_1) ?_
            refine Seq.op at6 rfl (Op.new rfl (O.alloc zo_24 (cs := (Stamp_enc Stamp.zero)) rfl) ?_)
            intro b110 hb110
            refine Seq.op at7 rfl (Op.set0 rfl (O.store kd_24 rfl (v := .agg _) rfl (Stamp_size _) (Stamp_room (Stamp_size _)) (Stamp_one _) (Stamp_put _ (Stamp_size _))) ?_)
            refine Seq.rd0 at8 rfl rfl (O.assign (v := .int .i64 _) rfl) ?_
            refine Seq.nil ?_
            refine hK109 ?_
            refine Cd.seq (fun K111 hK111 => ?_)
            refine Cd.seq (fun K112 hK112 => ?_)
            refine Cd.region [0, 1] rfl ?_
            refine Seq.rd0 at0 rfl rfl (O.move (v := .int .i64 _) rfl) ?_
            refine Seq.rd0 at1 rfl rfl (O.neI rfl rfl) ?_
            refine Seq.nil ?_
            refine hK112 ?_
            refine Cd.ifn (eA = 0) rfl (fun t113 => ?_) (fun t113 => ?_)
            · skip
              refine Cd.seq (fun K114 hK114 => ?_)
              refine Cd.region [0, 1, 2] rfl ?_
              refine Seq.rd0 at0 rfl rfl (O.move (v := .int .i64 _) rfl) ?_
              refine Seq.rd0 at1 rfl rfl (O.eqI rfl rfl) ?_
              refine Seq.rd0 at2 rfl rfl (O.assign (v := .bool _) rfl) ?_
              refine Seq.nil ?_
              refine hK114 ?_
              refine Cd.ret ?_
              exact hR _ L (Res.one (v := .bool _) rfl rfl) ⟨by rw [decide_eq_true (hfl.1 (by assumption))], rfl⟩ (.cons _ (.cons _ (sub_app (G := Ls8) (.refl _))))
            · skip
              refine Cd.skip ?_
              refine hK111 ?_
              refine Cd.seq (fun K115 hK115 => ?_)
              refine Cd.seq (fun K116 hK116 => ?_)
              refine Cd.region [0] rfl ?_
              refine Seq.rd0 at0 rfl rfl (O.move (v := .bool _) (by exact s99)) ?_
              refine Seq.nil ?_
              refine hK116 ?_
              refine Cd.cond (com) rfl (fun t117 => ?_) (fun t117 => ?_)
              · skip
                refine Cd.seq (fun K118 hK118 => ?_)
                refine Cd.region [0, 1, 2] rfl ?_
                refine Seq.rd0 at0 rfl rfl (O.move (v := .int .i64 _) rfl) ?_
                refine Seq.rd0 at1 rfl rfl (O.eqI rfl rfl) ?_
                refine Seq.rd0 at2 rfl rfl (O.assign (v := .bool _) rfl) ?_
                refine Seq.nil ?_
                refine hK118 ?_
                refine Cd.ret ?_
                exact hR _ L (Res.one (v := .bool _) rfl rfl) ⟨by rw [decide_eq_true (hfl.2.1 (by omega) (hcT (by assumption)))], rfl⟩ (.cons _ (.cons _ (sub_app (G := Ls8) (.refl _))))
              · skip
                refine Cd.skip ?_
                refine hK115 ?_
                refine Cd.seq (fun K119 hK119 => ?_)
                refine Cd.region [0, 1, 2, 3, 4, 5, 6, 7, 8, 9, 10, 11, 12, 13] rfl ?_
                refine Seq.rd0 at0 rfl rfl (O.move (v := .int .i64 _) rfl) ?_
                refine Seq.rd0 at1 rfl rfl (O.eqI rfl rfl) ?_
                refine Seq.rd0 at2 rfl rfl (O.move (v := .bool _) rfl) ?_
                by_cases t120 : eB = 6
                · rw [decide_eq_true t120]
                  refine Seq.pass at3 rfl rfl ?_
                  refine Seq.pass at4 rfl rfl ?_
                  refine Seq.pass at5 rfl rfl ?_
                  refine Seq.pass at6 rfl rfl ?_
                  refine Seq.pass at7 rfl rfl ?_
                  refine Seq.pass at8 rfl rfl ?_
                  refine Seq.pass at9 rfl rfl ?_
                  refine Seq.pass at10 rfl rfl ?_
                  refine Seq.pass at11 rfl rfl ?_
                  refine Seq.rd0 at12 rfl rfl (O.pickT (v := .bool _) rfl rfl) ?_
                  refine Seq.rd0 at13 rfl rfl (O.assign (v := .bool _) rfl) ?_
                  refine Seq.nil ?_
                  refine hK119 ?_
                  refine Cd.ret ?_
                  exact hR _ L (Res.one (v := .bool _) rfl rfl) ⟨rfl, rfl⟩ (.cons _ (.cons _ (sub_app (G := Ls8) (.refl _))))
                · rw [decide_eq_false t120]
                  refine Seq.rd0 at3 rfl rfl (O.move (v := .int .i64 _) rfl) ?_
                  refine Seq.rd0 at4 rfl rfl (O.eqI rfl rfl) ?_
                  refine Seq.rd0 at5 rfl rfl (O.move (v := .bool _) rfl) ?_
                  by_cases t121 : eB = 0
                  · rw [decide_eq_true t121]
                    refine Seq.rd0 at6 rfl rfl (O.field fo_24_0 rfl) ?_
                    refine Seq.rd1 at7 rfl rfl (O.load kd_2 rfl (Stamp_t _)) Rd.head ?_
                    refine Seq.rd0 at8 rfl rfl (O.field fo_24_0 rfl) ?_
                    refine Seq.rd1 at9 rfl rfl (O.load kd_2 rfl (Stamp_t _)) Rd.head.cons ?_
                    refine Seq.rd0 at10 rfl rfl (O.geq rfl rfl) ?_
                    refine Seq.rd0 at11 rfl rfl (O.pickT (v := .bool _) rfl rfl) ?_
                    refine Seq.rd0 at12 rfl rfl (O.pickF (v := .bool _) rfl rfl) ?_
                    refine Seq.rd0 at13 rfl rfl (O.assign (v := .bool _) rfl) ?_
                    refine Seq.nil ?_
                    refine hK119 ?_
                    refine Cd.ret ?_
                    have ht9 : rA.t ≤ rB.t := by rcases hfl.2.2 (by omega) (hcF (by assumption)) with h9 | ⟨_, h9⟩ <;> omega
                    exact hR _ L (Res.one (v := .bool _) rfl rfl) ⟨by rw [decide_eq_true ht9], rfl⟩ (.cons _ (.cons _ (sub_app (G := Ls8) (.refl _))))
                  · rw [decide_eq_false t121]
                    refine Seq.pass at6 rfl rfl ?_
                    refine Seq.pass at7 rfl rfl ?_
                    refine Seq.pass at8 rfl rfl ?_
                    refine Seq.pass at9 rfl rfl ?_
                    refine Seq.pass at10 rfl rfl ?_
                    refine Seq.rd0 at11 rfl rfl (O.pickF (v := .bool _) rfl rfl) ?_
                    refine Seq.rd0 at12 rfl rfl (O.pickF (v := .bool _) rfl rfl) ?_
                    refine Seq.rd0 at13 rfl rfl (O.assign (v := .bool _) rfl) ?_
                    refine Seq.nil ?_
                    refine hK119 ?_
                    refine Cd.ret ?_
                    exfalso; rcases hfl.2.2 (by omega) (hcF (by assumption)) with h9 | ⟨h9, _⟩ <;> omega

end Go.X
