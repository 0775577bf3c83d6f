/- Part 7 of the proofs over this program: what its functions compute. -/
import Derived.Test.YthifdialndcemaaGreatProg
import Derived.Shelf.SortM.Plain
import Derived.Shelf.SortM.SortNone
import Derived.Test.YthifdialndcemaaGreatS6
set_option linter.unusedVariables false
set_option linter.unusedSimpArgs false

namespace Go.X
open Go.Proofs
theorem fo_203_0 : fieldOff Tryz.prog 203 0 = some 0 := by kernel_rfl
theorem fo_208_0 : fieldOff Tryz.prog 208 0 = some 0 := by kernel_rfl
theorem hb_107 : hasBody Tryz.prog 107 = true := by kernel_rfl
/-! ## Commit -/
/-- has a key a version above? -/
def conK (l : List (Key × CV)) (s : Stamp) (k : Key) : Bool := (newestV (getS l k)).isSome && decide (0 < ((newestV (getS l k)).getD .zero).stamp.cmp s)
def ComX (l : List (Key × CV)) (la : Int) (snap : Stamp) (ws : List (Key × Write)) (r : Stamp) (e : Int) (l' : List (Key × CV)) (la' : Int) : Prop :=
  (ws = [] ∧ r = ⟨la, 0⟩ ∧ e = 0 ∧ l' = l ∧ la' = la) ∨
  (ws ≠ [] ∧ (∃ q ∈ ws, conK l snap q.1 = true) ∧ r = .zero ∧ e = 9 ∧ l' = l ∧ la' = la) ∨
  (ws ≠ [] ∧ (∀ q ∈ ws, conK l snap q.1 = false) ∧ ∃ ys, ys.Perm (ws.map Prod.snd) ∧ WOrd ys ∧ e = applyE l ⟨la + 1, 0⟩ ys ∧ (e ≠ 0 → r = .zero ∧ l' = l ∧ la' = la) ∧ (e = 0 → r = ⟨la + 1, 0⟩ ∧ la' = la + 1 ∧ AppS ⟨la + 1, 0⟩ l ys l'))
theorem permM {K V : Type} {ws pre rest rest' : List (K × V)} {q : K × V} (hp : (pre ++ rest).Perm ws) (hpm : rest.Perm (q :: rest')) : ((pre ++ [q]) ++ rest').Perm ws := by
  refine List.Perm.trans ?_ hp
  rw [List.append_assoc]
  exact List.Perm.append_left pre hpm.symm
theorem permQ {K V : Type} {ws pre rest rest' : List (K × V)} {q : K × V} (hp : (pre ++ rest).Perm ws) (hpm : rest.Perm (q :: rest')) : q ∈ ws :=
  hp.mem_iff.1 (List.mem_append.2 (.inr (hpm.mem_iff.2 (List.mem_cons_self))))
theorem conN {l : List (Key × CV)} {s : Stamp} {pre : List (Key × Write)} {q : Key × Write} (h : ∀ x ∈ pre, conK l s x.1 = false) (hq : conK l s q.1 = false) : ∀ x ∈ pre ++ [q], conK l s x.1 = false := by
  intro x hx
  rcases List.mem_append.1 hx with hx | hx
  · exact h x hx
  · rw [List.mem_singleton.1 hx]; exact hq

set_option maxRecDepth 100000 in
set_option maxHeartbeats 2000000 in
theorem C_solo_Commit_none {c : Cx} {L : List Pt} {p sb lm ck : Nat} {es : Array MapEntry} {L1 L2 : List Pt} {l : List (Key × CV)} {xl : List (I64 × TX)} {bg la : Int} (hSo : StOwn sb l L1) (hMx : MapIs i64V txV es ck xl) {ti : I64} (hl : alook xl ti = none) : Fn Tryz.prog 56 #[.pointer (some ⟨p, 0, none⟩), .int .i64 ti.1] c ((p, .cells #[.pointer (some ⟨sb, 0, none⟩), .map (some lm), .int .i64 bg, .int .i64 la] 203 (0, 0)) :: (lm, .map es ck) :: (L1 ++ (L2 ++ L))) (fun v L' => v = .tuple #[.agg (Stamp_enc .zero), .int .i64 4] ∧ L' = ((p, .cells #[.pointer (some ⟨sb, 0, none⟩), .map (some lm), .int .i64 bg, .int .i64 la] 203 (0, 0)) :: (lm, .map es ck) :: (L1 ++ (L2 ++ L)))) := by
  refine Fn.enter Tryz.func56 rfl 95 rfl rfl (fun R hR => ?_)
  refine Cd.seq (fun K1 hK1 => ?_)
  refine Cd.region [0, 1] rfl ?_
  refine Seq.op at0 rfl (Op.new rfl (O.alloc zo_24 (cs := (Stamp_enc Stamp.zero)) rfl) ?_)
  intro b2 hb2
  refine Seq.rd0 at1 rfl rfl (O.assign (v := .int .i64 _) rfl) ?_
  refine Seq.nil ?_
  refine hK1 ?_
  refine Cd.seq (fun K3 hK3 => ?_)
  refine Cd.region [0, 1, 2, 3, 4, 5, 6] rfl ?_
  refine Seq.rd0 at0 rfl rfl (O.move (v := .pointer _) rfl) ?_
  refine Seq.rd0 at1 rfl rfl (O.nilP rfl) ?_
  refine Seq.rd0 at2 rfl rfl (O.field fo_203_1 rfl) ?_
  refine Seq.rd1 at3 rfl rfl (O.load kd_201 rfl r4_1) Rd.head.cons ?_
  refine Seq.rd0 at4 rfl rfl (O.move (v := .int .i64 _) rfl) ?_
  refine Seq.rd1 at5 rfl rfl (O.lookN (ok := false) (encV := txV) (a := ti) mp_201 kk_i64 hMx zo_206 rfl (by exact rfl) hl) Rd.head.cons.cons ?_
  refine Seq.rd0 at6 rfl rfl (O.assign (v := .pointer _) rfl) ?_
  refine Seq.nil ?_
  refine hK3 ?_
  refine Cd.seq (fun K4 hK4 => ?_)
  refine Cd.seq (fun K5 hK5 => ?_)
  refine Cd.region [0, 1] rfl ?_
  refine Seq.rd0 at0 rfl rfl (O.move (v := .pointer _) rfl) ?_
  refine Seq.rd0 at1 rfl rfl (O.eqNil ds_206 rfl rfl) ?_
  refine Seq.nil ?_
  refine hK5 ?_
  refine Cd.condT rfl ?_
  refine Cd.seq (fun K6 hK6 => ?_)
  refine Cd.region [0, 1, 2] rfl ?_
  refine Seq.rd0 at0 rfl rfl (O.build rfl (cs := (Stamp_enc Stamp.zero)) (by kernel_rfl)) ?_
  refine Seq.op at1 rfl (Op.set0 rfl (O.store kd_24 rfl (v := .agg _) rfl (Stamp_size _) (Stamp_room (Stamp_size _)) (Stamp_one _) (Stamp_put _ (Stamp_size _))) ?_)
  refine Seq.rd0 at2 rfl rfl (O.assign (v := .int .i64 _) rfl) ?_
  refine Seq.nil ?_
  refine hK6 ?_
  refine Cd.ret ?_
  exact hR _ _ (Res.cell2 (v := .int .i64 _) rfl kd_24 rfl rfl Rd.head rfl) ⟨rfl, rfl⟩ (.cons _ (.refl _))

set_option maxRecDepth 100000 in
set_option maxHeartbeats 2000000 in
theorem C_solo_Commit_some {c : Cx} {L : List Pt} {p sb lm ck : Nat} {es : Array MapEntry} {L1 C1 : List Pt} {l : List (Key × CV)} {xl : List (I64 × TX)} {bg la : Int} (hSo : StOwn sb l L1) (hMx : MapIs i64V txV es ck xl) {ti : I64} {q : TX} {mb ck9 : Nat} {es9 : Array MapEntry} {ws : List (Key × Write)} (hl : alook xl ti = some q) (hMw : MapIs keyV wV es9 ck9 ws) (h16 : ws.length ≤ 16) (hla : 0 ≤ la ∧ la < 1000000) : Fn Tryz.prog 56 #[.pointer (some ⟨p, 0, none⟩), .int .i64 ti.1] c ((p, .cells #[.pointer (some ⟨sb, 0, none⟩), .map (some lm), .int .i64 bg, .int .i64 la] 203 (0, 0)) :: (lm, .map es ck) :: (q.1, .cells #[.int .i64 q.2.1.t, .int .u8 q.2.1.n, .map (some mb)] 208 (0, 0)) :: (mb, .map es9 ck9) :: (L1 ++ (C1 ++ L))) (fun v L' => ∃ r e l' la' es3 Ls', v = .tuple #[.agg (Stamp_enc r), .int .i64 e] ∧ MapIs i64V txV es3 ck (adel xl ti) ∧ StOwn sb l' Ls' ∧ ComX l la q.2.1 ws r e l' la' ∧ L' = (p, .cells #[.pointer (some ⟨sb, 0, none⟩), .map (some lm), .int .i64 bg, .int .i64 la'] 203 (0, 0)) :: (lm, .map es3 ck) :: (Ls' ++ (C1 ++ L))) := by
  have hms := hMw.size
  have hSr := StOwn.at_ (c := c) (R := C1 ++ L) hSo
  refine Fn.enter Tryz.func56 rfl 95 rfl rfl (fun R hR => ?_)
  refine Cd.seq (fun K1 hK1 => ?_)
  refine Cd.region [0, 1] rfl ?_
  refine Seq.op at0 rfl (Op.new rfl (O.alloc zo_24 (cs := (Stamp_enc Stamp.zero)) rfl) ?_)
  intro b2 hb2
  refine Seq.rd0 at1 rfl rfl (O.assign (v := .int .i64 _) rfl) ?_
  refine Seq.nil ?_
  refine hK1 ?_
  refine Cd.seq (fun K3 hK3 => ?_)
  refine Cd.region [0, 1, 2, 3, 4, 5, 6] rfl ?_
  refine Seq.rd0 at0 rfl rfl (O.move (v := .pointer _) rfl) ?_
  refine Seq.rd0 at1 rfl rfl (O.nilP rfl) ?_
  refine Seq.rd0 at2 rfl rfl (O.field fo_203_1 rfl) ?_
  refine Seq.rd1 at3 rfl rfl (O.load kd_201 rfl r4_1) Rd.head.cons ?_
  refine Seq.rd0 at4 rfl rfl (O.move (v := .int .i64 _) rfl) ?_
  refine Seq.rd1 at5 rfl rfl (O.lookS (ok := false) (encV := txV) (a := ti) mp_201 kk_i64 hMx rfl (by exact rfl) hl) Rd.head.cons.cons ?_
  refine Seq.rd0 at6 rfl rfl (O.assign (v := .pointer _) rfl) ?_
  refine Seq.nil ?_
  refine hK3 ?_
  refine Cd.seq (fun K4 hK4 => ?_)
  refine Cd.seq (fun K5 hK5 => ?_)
  refine Cd.region [0, 1] rfl ?_
  refine Seq.rd0 at0 rfl rfl (O.move (v := .pointer _) rfl) ?_
  refine Seq.rd0 at1 rfl rfl (O.eqNil ds_206 rfl rfl) ?_
  refine Seq.nil ?_
  refine hK5 ?_
  refine Cd.condF rfl ?_
  refine Cd.skip ?_
  refine hK4 ?_
  refine Cd.seq (fun K6 hK6 => ?_)
  refine Cd.region [0, 1, 2, 3, 4, 5] rfl ?_
  refine Seq.rd0 at0 rfl rfl (O.move (v := .pointer _) rfl) ?_
  refine Seq.rd0 at1 rfl rfl (O.nilP rfl) ?_
  refine Seq.rd0 at2 rfl rfl (O.field fo_203_1 rfl) ?_
  refine Seq.rd1 at3 rfl rfl (O.load kd_201 rfl r4_1) Rd.head.cons ?_
  refine Seq.rd0 at4 rfl rfl (O.move (v := .int .i64 _) rfl) ?_
  refine Seq.op at5 rfl (Op.gen rfl (O.mapDel (encV := txV) (a := ti) mp_201 kk_i64 hMx rfl (by exact rfl) (A := [(b2, _), (p, _)]) rfl) ?_)
  rintro _ _ ⟨rfl, es3, hMes3, rfl⟩
  refine Seq.nil ?_
  refine hK6 ?_
  refine Cd.seq (fun K7 hK7 => ?_)
  refine Cd.seq (fun K8 hK8 => ?_)
  refine Cd.region [0, 1, 2, 3, 4, 5] rfl ?_
  refine Seq.rd0 at0 rfl rfl (O.move (v := .pointer _) rfl) ?_
  refine Seq.rd0 at1 rfl rfl (O.nilP rfl) ?_
  refine Seq.rd0 at2 rfl rfl (O.field fo_208_1 rfl) ?_
  refine Seq.rd1 at3 rfl rfl (O.load kd_165 rfl r3_2) Rd.head.cons.cons.cons ?_
  refine Seq.rd1 at4 rfl rfl (O.lenM ds_165 rfl) Rd.head.cons.cons.cons.cons ?_
  refine Seq.rd0 at5 rfl rfl (O.eqI rfl rfl) ?_
  refine Seq.nil ?_
  refine hK8 ?_
  refine Cd.if ((es9.size : Int) = 0) rfl (fun t9 => ?_) (fun t9 => ?_)
  · skip
    have he : ws = [] := List.eq_nil_of_length_eq_zero (by omega)
    refine Cd.seq (fun K10 hK10 => ?_)
    refine Cd.region [0, 1, 2, 3, 4, 5, 6] rfl ?_
    refine Seq.rd0 at0 rfl rfl (O.move (v := .pointer _) rfl) ?_
    refine Seq.rd0 at1 rfl rfl (O.nilP rfl) ?_
    refine Seq.rd0 at2 rfl rfl (O.field fo_203_3 rfl) ?_
    refine Seq.rd1 at3 rfl rfl (O.load kd_2 rfl r4_3) Rd.head.cons ?_
    refine Seq.rd0 at4 rfl rfl (O.build rfl (cs := (Stamp_enc (⟨la, 0⟩ : Stamp))) (by kernel_rfl)) ?_
    refine Seq.op at5 rfl (Op.set0 rfl (O.store kd_24 rfl (v := .agg _) rfl (Stamp_size _) (Stamp_room (Stamp_size _)) (Stamp_one _) (Stamp_put _ (Stamp_size _))) ?_)
    refine Seq.rd0 at6 rfl rfl (O.assign (v := .int .i64 _) rfl) ?_
    refine Seq.nil ?_
    refine hK10 ?_
    refine Cd.ret ?_
    exact hR _ ((p, .cells #[.pointer (some ⟨sb, 0, none⟩), .map (some lm), .int .i64 bg, .int .i64 la] 203 (0, 0)) :: (lm, .map es3 ck) :: (L1 ++ (C1 ++ L))) (Res.cell2 (v := .int .i64 _) rfl kd_24 rfl rfl Rd.head rfl) ⟨(⟨la, 0⟩ : Stamp), 0, l, la, es3, L1, rfl, hMes3, hSo, .inl ⟨he, rfl, rfl, rfl, rfl⟩, rfl⟩ (.cons _ (.cons_cons _ (.cons_cons _ (.cons _ (.cons _ (.refl _))))))
  · skip
    have hne : ws ≠ [] := fun h8 => (by assumption : ¬ (es9.size : Int) = 0) (by rw [hms, h8]; rfl)
    refine Cd.skip ?_
    refine hK7 ?_
    refine Cd.seq (fun K11 hK11 => ?_)
    refine Cd.seq (fun K12 hK12 => ?_)
    refine Cd.region [0, 1, 2, 3, 4] rfl ?_
    refine Seq.rd0 at0 rfl rfl (O.move (v := .pointer _) rfl) ?_
    refine Seq.rd0 at1 rfl rfl (O.nilP rfl) ?_
    refine Seq.rd0 at2 rfl rfl (O.field fo_208_1 rfl) ?_
    refine Seq.rd1 at3 rfl rfl (O.load kd_165 rfl r3_2) Rd.head.cons.cons.cons ?_
    refine Seq.op at4 rfl (Op.gen rfl (O.range mp_165 hMw rfl (Rd.head.cons.cons.cons.cons)) ?_)
    rintro _ _ ⟨r, it, hr0, rfl, hi, rfl⟩
    refine Seq.nil ?_
    refine hK12 ?_
    refine Cd.block ?_
    refine Cd.loop (fun m13 e14 L15 => ∃ pre : List (Key × Write), ∃ rest : List (Key × Write), ∃ it : Obj, m13 = rest.length ∧ e14 0 = .pointer (some ⟨p, 0, none⟩) ∧ e14 4 = .pointer (some ⟨b2, 0, none⟩) ∧ e14 6 = .pointer (some ⟨q.1, 0, none⟩) ∧ e14 41 = .pointer (some ⟨r, 0, none⟩) ∧ L15 = (r, it) :: (b2, .cells (Stamp_enc Stamp.zero) 24 (0, 0)) :: (p, .cells #[.pointer (some ⟨sb, 0, none⟩), .map (some lm), .int .i64 bg, .int .i64 la] 203 (0, 0)) :: (lm, .map es3 ck) :: (q.1, .cells #[.int .i64 q.2.1.t, .int .u8 q.2.1.n, .map (some mb)] 208 (0, 0)) :: (mb, .map es9 ck9) :: (L1 ++ ((C1 ++ (L)))) ∧ ItIs keyV wV es9 ck9 mb rest it ∧ (pre ++ rest).Perm ws ∧ (∀ x ∈ pre, conK l q.2.1 x.1 = false)) _ ⟨[], ws, it, rfl, rfl, rfl, rfl, rfl, rfl, hi, by exact .refl _, by intro x hx; simp at hx⟩ ?_
    rintro _ e14 _ ⟨pre, rest, it, rfl, s16, s17, s18, s19, rfl, hi, hp, hz⟩ K20 hK20
    refine Cd.seq (fun K21 hK21 => ?_)
    refine Cd.region [0, 1] rfl ?_
    refine Seq.op at0 rfl (Op.gen rfl (O.next hMw hi (by exact s19) Rd.head.cons.cons.cons.cons.cons) ?_)
    rintro _ _ (⟨rfl, rfl, rfl⟩ | ⟨a, u, rest', it', hpm, rfl, hi', hent, rfl⟩)
    · skip
      refine Seq.rd0 at1 rfl rfl (O.ext rfl r1_0) ?_
      refine Seq.nil ?_
      refine hK21 ?_
      refine Cd.seq (fun K22 hK22 => ?_)
      refine Cd.condF rfl ?_
      refine Cd.exit ?_
      refine hK11 ?_
      refine Cd.seq (fun K23 hK23 => ?_)
      refine Cd.region [0, 1, 2, 3, 4, 5, 6, 7] rfl ?_
      refine Seq.rd0 at0 rfl rfl (O.move (v := .pointer _) (by exact s16)) ?_
      refine Seq.rd0 at1 rfl rfl (O.nilP rfl) ?_
      refine Seq.rd0 at2 rfl rfl (O.field fo_203_3 rfl) ?_
      refine Seq.rd1 at3 rfl rfl (O.load kd_2 rfl r4_3) Rd.head.cons.cons ?_
      refine Seq.rd0 at4 rfl rfl (O.add rfl rfl (by omega) (by omega)) ?_
      refine Seq.rd0 at5 rfl rfl (O.build rfl (cs := (Stamp_enc (⟨(la + 1), 0⟩ : Stamp))) (by kernel_rfl)) ?_
      refine Seq.op at6 rfl (Op.new rfl (O.alloc zo_24 (cs := (Stamp_enc Stamp.zero)) rfl) ?_)
      intro b24 hb24
      refine Seq.op at7 rfl (Op.set0 rfl (O.store kd_24 rfl (v := .agg _) rfl (Stamp_size _) (Stamp_room (Stamp_size _)) (Stamp_one _) (Stamp_put _ (Stamp_size _))) ?_)
      refine Seq.nil ?_
      refine hK23 ?_
      refine Cd.seq (fun K25 hK25 => ?_)
      refine Cd.seq (fun K26 hK26 => ?_)
      refine Cd.draw 12 rfl po ?_
      refine Any.rd0 0 at0 rfl rfl (O.move (v := .pointer _) (by exact s16)) (by kernel_rfl) (by kernel_rfl) (by kernel_rfl) ?_
      refine Any.rd0 1 at1 rfl rfl (O.nilP rfl) (by kernel_rfl) (by kernel_rfl) (by kernel_rfl) ?_
      refine Any.rd0 2 at2 rfl rfl (O.field fo_203_0 rfl) (by kernel_rfl) (by kernel_rfl) (by kernel_rfl) ?_
      refine Any.rd1 3 at3 rfl rfl (O.load kd_137 rfl r4_0) Rd.head.cons.cons.cons (by kernel_rfl) (by kernel_rfl) (by kernel_rfl) ?_
      refine Any.rd1 4 at4 rfl rfl (O.loadA kd_24 rfl (Nat.le_of_ble_eq_true rfl) (Stamp_all _)) Rd.head (by kernel_rfl) (by kernel_rfl) (by kernel_rfl) ?_
      refine Any.rd0 5 at5 rfl rfl (O.move (v := .pointer _) (by exact s18)) (by kernel_rfl) (by kernel_rfl) (by kernel_rfl) ?_
      refine Any.rd0 6 at6 rfl rfl (O.nilP rfl) (by kernel_rfl) (by kernel_rfl) (by kernel_rfl) ?_
      refine Any.rd0 7 at7 rfl rfl (O.field fo_208_1 rfl) (by kernel_rfl) (by kernel_rfl) (by kernel_rfl) ?_
      refine Any.rd1 8 at8 rfl rfl (O.load kd_165 rfl r3_2) Rd.head.cons.cons.cons.cons.cons (by kernel_rfl) (by kernel_rfl) (by kernel_rfl) ?_
      refine Any.one 9 at9 rfl (by kernel_rfl) ⟨⟨⟨trivial, Rd.head.cons.cons.cons⟩, Rd.head⟩, Rd.head.cons.cons.cons.cons.cons⟩ ?_
      have h16' : ws.length ≤ 1000000000 := by omega
      refine Op.callF rfl hb_107 (C_solo_Sorted hMw (Rd.head.cons.cons.cons.cons.cons.cons) h16') rfl ?_
      rintro _ _ ⟨ys, Ly, hpy, hoy, hwy, rfl⟩
      obtain ⟨av, cap, rfl⟩ := OwnSl.form hwy
      refine Ent.perm ?_ (bring (Ls := Ly) (pre := [(b24, _), (r, _), (b2, _), (p, _), (lm, _), (q.1, _), (mb, _)]) (R := (L1 ++ ((C1 ++ (L)))))).symm
      refine Any.toK ?_
      refine Any.one 10 at10 rfl (by kernel_rfl) ⟨⟨⟨trivial, Rd.head.cons.cons.cons⟩, Rd.head⟩, Rd.head.cons.cons.cons.cons.cons⟩ ?_
      have hlen2 : ys.length = ws.length := by rw [hpy.length_eq, List.length_map]
      have hWy : SlAt c (Ly ++ (C1 ++ (L))) Write_enc av ys.length ys := (OwnSl.at_ (R := (C1 ++ (L))) hwy rfl (by omega))
      have hWx : SlAt c ((b24, .cells (Stamp_enc (⟨(la + 1), 0⟩ : Stamp)) 24 (0, 0)) :: (r, it) :: (b2, .cells (Stamp_enc Stamp.zero) 24 (0, 0)) :: (p, .cells #[.pointer (some ⟨sb, 0, none⟩), .map (some lm), .int .i64 bg, .int .i64 la] 203 (0, 0)) :: (lm, .map es3 ck) :: (q.1, .cells #[.int .i64 q.2.1.t, .int .u8 q.2.1.n, .map (some mb)] 208 (0, 0)) :: (mb, .map es9 ck9) :: (Ly ++ ((C1 ++ (L))))) Write_enc av ys.length ys := hWy.cons.cons.cons.cons.cons.cons.cons
      have hWz : SlAt c (((b24, .cells (Stamp_enc (⟨(la + 1), 0⟩ : Stamp)) 24 (0, 0)) :: ((r, it) :: ((b2, .cells (Stamp_enc Stamp.zero) 24 (0, 0)) :: ((p, .cells #[.pointer (some ⟨sb, 0, none⟩), .map (some lm), .int .i64 bg, .int .i64 la] 203 (0, 0)) :: ((lm, .map es3 ck) :: ((q.1, .cells #[.int .i64 q.2.1.t, .int .u8 q.2.1.n, .map (some mb)] 208 (0, 0)) :: ((mb, .map es9 ck9) :: (Ly ++ [])))))))) ++ (C1 ++ (L))) Write_enc av ys.length ys := by simpa using hWx
      refine Op.callF rfl hb_94 (Fn.perm (C_Apply (R := ((b24, .cells (Stamp_enc (⟨(la + 1), 0⟩ : Stamp)) 24 (0, 0)) :: ((r, it) :: ((b2, .cells (Stamp_enc Stamp.zero) 24 (0, 0)) :: ((p, .cells #[.pointer (some ⟨sb, 0, none⟩), .map (some lm), .int .i64 bg, .int .i64 la] 203 (0, 0)) :: ((lm, .map es3 ck) :: ((q.1, .cells #[.int .i64 q.2.1.t, .int .u8 q.2.1.n, .map (some mb)] 208 (0, 0)) :: ((mb, .map es9 ck9) :: (Ly ++ [])))))))) ++ (C1 ++ (L))) (s := (⟨la + 1, 0⟩ : Stamp)) (cw := cap) hSo hWz) (by have h9 := bring (Ls := L1) (pre := ((b24, .cells (Stamp_enc (⟨(la + 1), 0⟩ : Stamp)) 24 (0, 0)) :: ((r, it) :: ((b2, .cells (Stamp_enc Stamp.zero) 24 (0, 0)) :: ((p, .cells #[.pointer (some ⟨sb, 0, none⟩), .map (some lm), .int .i64 bg, .int .i64 la] 203 (0, 0)) :: ((lm, .map es3 ck) :: ((q.1, .cells #[.int .i64 q.2.1.t, .int .u8 q.2.1.n, .map (some mb)] 208 (0, 0)) :: ((mb, .map es9 ck9) :: (Ly ++ []))))))))) (R := (C1 ++ (L))); simpa using h9)) rfl ?_
      rintro _ _ ⟨rfl, l3, L3, hA3, hB3, hS3, rfl⟩
      refine Ent.perm (L' := (b24, .cells (Stamp_enc (⟨(la + 1), 0⟩ : Stamp)) 24 (0, 0)) :: (r, it) :: (b2, .cells (Stamp_enc Stamp.zero) 24 (0, 0)) :: (p, .cells #[.pointer (some ⟨sb, 0, none⟩), .map (some lm), .int .i64 bg, .int .i64 la] 203 (0, 0)) :: (lm, .map es3 ck) :: (q.1, .cells #[.int .i64 q.2.1.t, .int .u8 q.2.1.n, .map (some mb)] 208 (0, 0)) :: (mb, .map es9 ck9) :: (Ly ++ ((L3 ++ ((C1 ++ (L))))))) ?_ (by have h9 := bring (Ls := L3) (pre := ((b24, .cells (Stamp_enc (⟨(la + 1), 0⟩ : Stamp)) 24 (0, 0)) :: ((r, it) :: ((b2, .cells (Stamp_enc Stamp.zero) 24 (0, 0)) :: ((p, .cells #[.pointer (some ⟨sb, 0, none⟩), .map (some lm), .int .i64 bg, .int .i64 la] 203 (0, 0)) :: ((lm, .map es3 ck) :: ((q.1, .cells #[.int .i64 q.2.1.t, .int .u8 q.2.1.n, .map (some mb)] 208 (0, 0)) :: ((mb, .map es9 ck9) :: (Ly ++ []))))))))) (R := (C1 ++ (L))).symm; simpa using h9)
      refine Any.toK ?_
      refine Any.rd0 11 at11 rfl rfl (O.assign (v := .int .i64 _) rfl) (by kernel_rfl) (by kernel_rfl) (by kernel_rfl) ?_
      refine Any.done (by kernel_rfl) ⟨⟨⟨trivial, Rd.head.cons.cons.cons⟩, Rd.head⟩, Rd.head.cons.cons.cons.cons.cons⟩ ?_
      refine hK26 ?_
      refine Cd.seq (fun K27 hK27 => ?_)
      refine Cd.region [0, 1] rfl ?_
      refine Seq.rd0 at0 rfl rfl (O.move (v := .int .i64 _) rfl) ?_
      refine Seq.rd0 at1 rfl rfl (O.neI rfl rfl) ?_
      refine Seq.nil ?_
      refine hK27 ?_
      refine Cd.ifn ((applyE l ⟨la + 1, 0⟩ ys) = 0) rfl (fun t28 => ?_) (fun t28 => ?_)
      · skip
        have hzz : ∀ x ∈ ws, conK l q.2.1 x.1 = false := fun x hx => hz x ((by simpa using hp : pre.Perm ws).mem_iff.2 hx)
        refine Cd.seq (fun K29 hK29 => ?_)
        refine Cd.region [0, 1, 2, 3] rfl ?_
        refine Seq.rd0 at0 rfl rfl (O.build rfl (cs := (Stamp_enc Stamp.zero)) (by kernel_rfl)) ?_
        refine Seq.rd0 at1 rfl rfl (O.move (v := .int .i64 _) rfl) ?_
        refine Seq.op at2 rfl (Op.set2 rfl (O.store kd_24 (by exact s17) (v := .agg _) rfl (Stamp_size _) (Stamp_room (Stamp_size _)) (Stamp_one _) (Stamp_put _ (Stamp_size _))) ?_)
        refine Seq.rd0 at3 rfl rfl (O.assign (v := .int .i64 _) rfl) ?_
        refine Seq.nil ?_
        refine hK29 ?_
        refine Cd.ret ?_
        have hnz : ¬ applyE l ⟨la + 1, 0⟩ ys = 0 := by assumption
        exact hR _ ((p, .cells #[.pointer (some ⟨sb, 0, none⟩), .map (some lm), .int .i64 bg, .int .i64 la] 203 (0, 0)) :: (lm, .map es3 ck) :: (L3 ++ (C1 ++ L))) (Res.cell2 (v := .int .i64 _) rfl kd_24 (by exact s17) rfl Rd.head.cons.cons rfl) ⟨Stamp.zero, (applyE l ⟨la + 1, 0⟩ ys), l3, la, es3, L3, rfl, hMes3, hS3, .inr (.inr ⟨hne, hzz, ys, hpy, hoy, rfl, fun _ => ⟨rfl, hB3 hnz, rfl⟩, fun h => absurd h hnz⟩), rfl⟩ (.cons _ (.cons _ (.cons _ (.cons_cons _ (.cons_cons _ (.cons _ (.cons _ (sub_app (G := Ly) (.refl _)))))))))
      · skip
        have hzz : ∀ x ∈ ws, conK l q.2.1 x.1 = false := fun x hx => hz x ((by simpa using hp : pre.Perm ws).mem_iff.2 hx)
        refine Cd.skip ?_
        refine hK25 ?_
        refine Cd.seq (fun K30 hK30 => ?_)
        refine Cd.region [0, 1, 2, 3, 4, 5, 6, 7] rfl ?_
        refine Seq.rd0 at0 rfl rfl (O.move (v := .pointer _) (by exact s16)) ?_
        refine Seq.rd0 at1 rfl rfl (O.nilP rfl) ?_
        refine Seq.rd0 at2 rfl rfl (O.field fo_203_3 rfl) ?_
        refine Seq.rd1 at3 rfl rfl (O.load kd_2 rfl r4_3) Rd.head.cons.cons.cons ?_
        refine Seq.rd0 at4 rfl rfl (O.add rfl rfl (by omega) (by omega)) ?_
        refine Seq.rd0 at5 rfl rfl (O.nilP rfl) ?_
        refine Seq.rd0 at6 rfl rfl (O.field fo_203_3 rfl) ?_
        refine Seq.op at7 rfl (Op.set3 rfl (O.store1 kd_2 rfl (v := .int .i64 _) rfl (Nat.le_of_ble_eq_true rfl) rfl (cs' := #[.pointer (some ⟨sb, 0, none⟩), .map (some lm), .int .i64 bg, .int .i64 (la + 1)]) rfl) ?_)
        refine Seq.nil ?_
        refine hK30 ?_
        refine Cd.seq (fun K31 hK31 => ?_)
        refine Cd.region [0, 1, 2] rfl ?_
        refine Seq.rd1 at0 rfl rfl (O.loadA kd_24 rfl (Nat.le_of_ble_eq_true rfl) (Stamp_all _)) Rd.head ?_
        refine Seq.op at1 rfl (Op.set2 rfl (O.store kd_24 (by exact s17) (v := .agg _) rfl (Stamp_size _) (Stamp_room (Stamp_size _)) (Stamp_one _) (Stamp_put _ (Stamp_size _))) ?_)
        refine Seq.rd0 at2 rfl rfl (O.assign (v := .int .i64 _) rfl) ?_
        refine Seq.nil ?_
        refine hK31 ?_
        refine Cd.ret ?_
        have hz0 : applyE l ⟨la + 1, 0⟩ ys = 0 := by assumption
        exact hR _ ((p, .cells #[.pointer (some ⟨sb, 0, none⟩), .map (some lm), .int .i64 bg, .int .i64 (la + 1)] 203 (0, 0)) :: (lm, .map es3 ck) :: (L3 ++ (C1 ++ L))) (Res.cell2 (v := .int .i64 _) rfl kd_24 (by exact s17) rfl Rd.head.cons.cons rfl) ⟨(⟨(la + 1), 0⟩ : Stamp), 0, l3, (la + 1), es3, L3, rfl, hMes3, hS3, .inr (.inr ⟨hne, hzz, ys, hpy, hoy, hz0.symm, fun h => absurd rfl h, fun _ => ⟨rfl, rfl, hA3 hz0⟩⟩), rfl⟩ (.cons _ (.cons _ (.cons _ (.cons_cons _ (.cons_cons _ (.cons _ (.cons _ (sub_app (G := Ly) (.refl _)))))))))
    · skip
      refine Seq.rd0 at1 rfl rfl (O.ext rfl r3_0) ?_
      refine Seq.nil ?_
      refine hK21 ?_
      refine Cd.seq (fun K32 hK32 => ?_)
      refine Cd.condT rfl ?_
      refine Cd.skip ?_
      refine hK32 ?_
      refine Cd.block ?_
      refine Cd.seq (fun K33 hK33 => ?_)
      refine Cd.region [0, 1, 2, 3] rfl ?_
      refine Seq.op at0 rfl (Op.gen rfl (hent _ _ (by exact s19) Rd.head Rd.head.cons.cons.cons.cons.cons) ?_)
      rintro _ _ ⟨rfl, rfl⟩
      refine Seq.rd0 at1 rfl rfl (O.ext rfl r2_0) ?_
      refine Seq.op at2 rfl (Op.new rfl (O.alloc zo_45 (cs := (Key_enc Key.zero)) rfl) ?_)
      intro b34 hb34
      refine Seq.op at3 rfl (Op.set0 rfl (O.store kd_45 rfl (v := .agg _) rfl (Key_size _) (Key_room (Key_size _)) (Key_one _) (Key_put _ (Key_size _))) ?_)
      refine Seq.nil ?_
      refine hK33 ?_
      refine Cd.seq (fun K35 hK35 => ?_)
      refine Cd.draw 12 rfl po ?_
      refine Any.rd0 0 at0 rfl rfl (O.move (v := .pointer _) (by exact s16)) (by kernel_rfl) (by kernel_rfl) (by kernel_rfl) ?_
      refine Any.rd0 1 at1 rfl rfl (O.nilP rfl) (by kernel_rfl) (by kernel_rfl) (by kernel_rfl) ?_
      refine Any.rd0 2 at2 rfl rfl (O.field fo_203_0 rfl) (by kernel_rfl) (by kernel_rfl) (by kernel_rfl) ?_
      refine Any.rd1 3 at3 rfl rfl (O.load kd_137 rfl r4_0) Rd.head.cons.cons.cons (by kernel_rfl) (by kernel_rfl) (by kernel_rfl) ?_
      refine Any.rd1 4 at4 rfl rfl (O.loadA kd_45 rfl (Nat.le_of_ble_eq_true rfl) (Key_all _)) Rd.head (by kernel_rfl) (by kernel_rfl) (by kernel_rfl) ?_
      refine Any.two 5 9 at5 at9 rfl rfl (by kernel_rfl) ⟨⟨trivial, Rd.head.cons.cons.cons⟩, Rd.head⟩ ?_ ?_
      · skip
        refine Op.callF rfl hb_131 (C_store_Newest (k := a) (hSr.cons.cons.cons.cons.cons.cons.cons)) rfl ?_
        rintro _ _ ⟨rfl, rfl⟩
        refine Any.toK ?_
        refine Any.rd0 6 at6 rfl rfl (O.move (v := .tuple _) rfl) (by kernel_rfl) (by kernel_rfl) (by kernel_rfl) ?_
        refine Any.rd0 7 at7 rfl rfl (O.ext rfl r2_0) (by kernel_rfl) (by kernel_rfl) (by kernel_rfl) ?_
        refine Any.rd0 8 at8 rfl rfl (O.ext rfl r2_1) (by kernel_rfl) (by kernel_rfl) (by kernel_rfl) ?_
        refine Any.one 9 at9 rfl (by kernel_rfl) ⟨⟨trivial, Rd.head.cons.cons.cons⟩, Rd.head⟩ ?_
        refine Op.new rfl (O.alloc zo_24 (cs := (Stamp_enc Stamp.zero)) rfl) ?_
        intro b36 hb36
        refine Any.toK ?_
        refine Any.one 10 at10 rfl (by kernel_rfl) ⟨⟨trivial, Rd.head.cons.cons.cons.cons⟩, Rd.head.cons⟩ ?_
        refine Op.set0 rfl (O.store kd_24 rfl (v := .agg _) rfl (Stamp_size _) (Stamp_room (Stamp_size _)) (Stamp_one _) (Stamp_put _ (Stamp_size _))) ?_
        refine Any.toK ?_
        refine Any.rd0 11 at11 rfl rfl (O.assign (v := .bool _) rfl) (by kernel_rfl) (by kernel_rfl) (by kernel_rfl) ?_
        refine Any.done (by kernel_rfl) ⟨⟨trivial, Rd.head.cons.cons.cons.cons⟩, Rd.head.cons⟩ ?_
        refine hK35 ?_
        refine Cd.seq (fun K37 hK37 => ?_)
        refine Cd.draw 10 rfl po ?_
        refine Any.rd0 0 at0 rfl rfl (O.move (v := .bool _) rfl) (by kernel_rfl) (by kernel_rfl) (by kernel_rfl) ?_
        refine Any.rd0 1 at1 rfl rfl (O.move (v := .bool _) rfl) (by kernel_rfl) (by kernel_rfl) (by kernel_rfl) ?_
        cases t38 : (newestV (getS l a)).isSome
        · skip
          refine Any.pass 2 at2 rfl rfl (by kernel_rfl) (by kernel_rfl) (by kernel_rfl) ?_
          refine Any.pass 3 at3 rfl rfl (by kernel_rfl) (by kernel_rfl) (by kernel_rfl) ?_
          refine Any.pass 4 at4 rfl rfl (by kernel_rfl) (by kernel_rfl) (by kernel_rfl) ?_
          refine Any.pass 5 at5 rfl rfl (by kernel_rfl) (by kernel_rfl) (by kernel_rfl) ?_
          refine Any.pass 6 at6 rfl rfl (by kernel_rfl) (by kernel_rfl) (by kernel_rfl) ?_
          refine Any.pass 7 at7 rfl rfl (by kernel_rfl) (by kernel_rfl) (by kernel_rfl) ?_
          refine Any.pass 8 at8 rfl rfl (by kernel_rfl) (by kernel_rfl) (by kernel_rfl) ?_
          refine Any.rd0 9 at9 rfl rfl (O.pickF (v := .bool _) rfl rfl) (by kernel_rfl) (by kernel_rfl) (by kernel_rfl) ?_
          refine Any.done (by kernel_rfl) trivial ?_
          refine hK37 ?_
          refine Cd.condF rfl ?_
          refine Cd.skip ?_
          refine Ent.drop ?_
          refine Ent.drop ?_
          exact hK20 _ (step_dec hpm) ⟨pre ++ [(a, u)], rest', it', rfl, (by exact s16), (by exact s17), (by exact s18), (by exact s19), rfl, hi', permM hp hpm, conN hz (by unfold conK; simp_all)⟩
        · skip
          refine Any.rd1 2 at2 rfl rfl (O.loadA kd_24 rfl (Nat.le_of_ble_eq_true rfl) (Stamp_all _)) Rd.head (by kernel_rfl) (by kernel_rfl) (by kernel_rfl) ?_
          refine Any.rd0 3 at3 rfl rfl (O.move (v := .pointer _) (by exact s18)) (by kernel_rfl) (by kernel_rfl) (by kernel_rfl) ?_
          refine Any.rd0 4 at4 rfl rfl (O.nilP rfl) (by kernel_rfl) (by kernel_rfl) (by kernel_rfl) ?_
          refine Any.rd0 5 at5 rfl rfl (O.field fo_208_0 rfl) (by kernel_rfl) (by kernel_rfl) (by kernel_rfl) ?_
          refine Any.rd1 6 at6 rfl rfl (O.loadA kd_24 rfl (Nat.le_of_ble_eq_true rfl) rfl) Rd.head.cons.cons.cons.cons.cons.cons (by kernel_rfl) (by kernel_rfl) (by kernel_rfl) ?_
          refine Any.one 7 at7 rfl (by kernel_rfl) ⟨⟨trivial, Rd.head⟩, Rd.head.cons.cons.cons.cons.cons.cons⟩ ?_
          refine Op.callF rfl hb_132 C_stamp_Cmp rfl ?_
          rintro _ _ ⟨rfl, rfl⟩
          refine Any.toK ?_
          refine Any.rd0 8 at8 rfl rfl (O.gtr rfl rfl) (by kernel_rfl) (by kernel_rfl) (by kernel_rfl) ?_
          refine Any.rd0 9 at9 rfl rfl (O.pickT (v := .bool _) rfl rfl) (by kernel_rfl) (by kernel_rfl) (by kernel_rfl) ?_
          refine Any.done (by kernel_rfl) ⟨⟨trivial, Rd.head⟩, Rd.head.cons.cons.cons.cons.cons.cons⟩ ?_
          refine hK37 ?_
          refine Cd.if ((0 : Int) < ((((newestV (getS l a)).getD .zero).stamp).cmp q.2.1)) rfl (fun t39 => ?_) (fun t39 => ?_)
          · skip
            refine Cd.seq (fun K40 hK40 => ?_)
            refine Cd.region [0, 1, 2] rfl ?_
            refine Seq.rd0 at0 rfl rfl (O.build rfl (cs := (Stamp_enc Stamp.zero)) (by kernel_rfl)) ?_
            refine Seq.op at1 rfl (Op.set3 rfl (O.store kd_24 (by exact s17) (v := .agg _) rfl (Stamp_size _) (Stamp_room (Stamp_size _)) (Stamp_one _) (Stamp_put _ (Stamp_size _))) ?_)
            refine Seq.rd0 at2 rfl rfl (O.assign (v := .int .i64 _) rfl) ?_
            refine Seq.nil ?_
            refine hK40 ?_
            refine Cd.ret ?_
            exact hR _ ((p, .cells #[.pointer (some ⟨sb, 0, none⟩), .map (some lm), .int .i64 bg, .int .i64 la] 203 (0, 0)) :: (lm, .map es3 ck) :: (L1 ++ (C1 ++ L))) (Res.cell2 (v := .int .i64 _) rfl kd_24 (by exact s17) rfl Rd.head.cons.cons.cons rfl) ⟨Stamp.zero, 9, l, la, es3, L1, rfl, hMes3, hSo, .inr (.inl ⟨hne, ⟨_, permQ hp hpm, by unfold conK; simp_all⟩, rfl, rfl, rfl, rfl⟩), rfl⟩ (.cons _ (.cons _ (.cons _ (.cons _ (.cons_cons _ (.cons_cons _ (.cons _ (.cons _ (.refl _)))))))))
          · skip
            refine Cd.skip ?_
            refine Ent.drop ?_
            refine Ent.drop ?_
            exact hK20 _ (step_dec hpm) ⟨pre ++ [(a, u)], rest', it', rfl, (by exact s16), (by exact s17), (by exact s18), (by exact s19), rfl, hi', permM hp hpm, conN hz (by unfold conK; simp_all)⟩
      · skip
        refine Op.new rfl (O.alloc zo_24 (cs := (Stamp_enc Stamp.zero)) rfl) ?_
        intro b41 hb41
        refine Any.toK ?_
        refine Any.one 5 at5 rfl (by kernel_rfl) ⟨⟨trivial, Rd.head.cons.cons.cons.cons⟩, Rd.head.cons⟩ ?_
        refine Op.callF rfl hb_131 (C_store_Newest (k := a) (hSr.cons.cons.cons.cons.cons.cons.cons.cons)) rfl ?_
        rintro _ _ ⟨rfl, rfl⟩
        refine Any.toK ?_
        refine Any.rd0 6 at6 rfl rfl (O.move (v := .tuple _) rfl) (by kernel_rfl) (by kernel_rfl) (by kernel_rfl) ?_
        refine Any.rd0 7 at7 rfl rfl (O.ext rfl r2_0) (by kernel_rfl) (by kernel_rfl) (by kernel_rfl) ?_
        refine Any.rd0 8 at8 rfl rfl (O.ext rfl r2_1) (by kernel_rfl) (by kernel_rfl) (by kernel_rfl) ?_
        refine Any.one 10 at10 rfl (by kernel_rfl) ⟨⟨trivial, Rd.head.cons.cons.cons.cons⟩, Rd.head.cons⟩ ?_
        refine Op.set0 rfl (O.store kd_24 rfl (v := .agg _) rfl (Stamp_size _) (Stamp_room (Stamp_size _)) (Stamp_one _) (Stamp_put _ (Stamp_size _))) ?_
        refine Any.toK ?_
        refine Any.rd0 11 at11 rfl rfl (O.assign (v := .bool _) rfl) (by kernel_rfl) (by kernel_rfl) (by kernel_rfl) ?_
        refine Any.done (by kernel_rfl) ⟨⟨trivial, Rd.head.cons.cons.cons.cons⟩, Rd.head.cons⟩ ?_
        refine hK35 ?_
        refine Cd.seq (fun K42 hK42 => ?_)
        refine Cd.draw 10 rfl po ?_
        refine Any.rd0 0 at0 rfl rfl (O.move (v := .bool _) rfl) (by kernel_rfl) (by kernel_rfl) (by kernel_rfl) ?_
        refine Any.rd0 1 at1 rfl rfl (O.move (v := .bool _) rfl) (by kernel_rfl) (by kernel_rfl) (by kernel_rfl) ?_
        cases t43 : (newestV (getS l a)).isSome
        · skip
          refine Any.pass 2 at2 rfl rfl (by kernel_rfl) (by kernel_rfl) (by kernel_rfl) ?_
          refine Any.pass 3 at3 rfl rfl (by kernel_rfl) (by kernel_rfl) (by kernel_rfl) ?_
          refine Any.pass 4 at4 rfl rfl (by kernel_rfl) (by kernel_rfl) (by kernel_rfl) ?_
          refine Any.pass 5 at5 rfl rfl (by kernel_rfl) (by kernel_rfl) (by kernel_rfl) ?_
          refine Any.pass 6 at6 rfl rfl (by kernel_rfl) (by kernel_rfl) (by kernel_rfl) ?_
          refine Any.pass 7 at7 rfl rfl (by kernel_rfl) (by kernel_rfl) (by kernel_rfl) ?_
          refine Any.pass 8 at8 rfl rfl (by kernel_rfl) (by kernel_rfl) (by kernel_rfl) ?_
          refine Any.rd0 9 at9 rfl rfl (O.pickF (v := .bool _) rfl rfl) (by kernel_rfl) (by kernel_rfl) (by kernel_rfl) ?_
          refine Any.done (by kernel_rfl) trivial ?_
          refine hK42 ?_
          refine Cd.condF rfl ?_
          refine Cd.skip ?_
          refine Ent.drop ?_
          refine Ent.drop ?_
          exact hK20 _ (step_dec hpm) ⟨pre ++ [(a, u)], rest', it', rfl, (by exact s16), (by exact s17), (by exact s18), (by exact s19), rfl, hi', permM hp hpm, conN hz (by unfold conK; simp_all)⟩
        · skip
          refine Any.rd1 2 at2 rfl rfl (O.loadA kd_24 rfl (Nat.le_of_ble_eq_true rfl) (Stamp_all _)) Rd.head (by kernel_rfl) (by kernel_rfl) (by kernel_rfl) ?_
          refine Any.rd0 3 at3 rfl rfl (O.move (v := .pointer _) (by exact s18)) (by kernel_rfl) (by kernel_rfl) (by kernel_rfl) ?_
          refine Any.rd0 4 at4 rfl rfl (O.nilP rfl) (by kernel_rfl) (by kernel_rfl) (by kernel_rfl) ?_
          refine Any.rd0 5 at5 rfl rfl (O.field fo_208_0 rfl) (by kernel_rfl) (by kernel_rfl) (by kernel_rfl) ?_
          refine Any.rd1 6 at6 rfl rfl (O.loadA kd_24 rfl (Nat.le_of_ble_eq_true rfl) rfl) Rd.head.cons.cons.cons.cons.cons.cons (by kernel_rfl) (by kernel_rfl) (by kernel_rfl) ?_
          refine Any.one 7 at7 rfl (by kernel_rfl) ⟨⟨trivial, Rd.head⟩, Rd.head.cons.cons.cons.cons.cons.cons⟩ ?_
          refine Op.callF rfl hb_132 C_stamp_Cmp rfl ?_
          rintro _ _ ⟨rfl, rfl⟩
          refine Any.toK ?_
          refine Any.rd0 8 at8 rfl rfl (O.gtr rfl rfl) (by kernel_rfl) (by kernel_rfl) (by kernel_rfl) ?_
          refine Any.rd0 9 at9 rfl rfl (O.pickT (v := .bool _) rfl rfl) (by kernel_rfl) (by kernel_rfl) (by kernel_rfl) ?_
          refine Any.done (by kernel_rfl) ⟨⟨trivial, Rd.head⟩, Rd.head.cons.cons.cons.cons.cons.cons⟩ ?_
          refine hK42 ?_
          refine Cd.if ((0 : Int) < ((((newestV (getS l a)).getD .zero).stamp).cmp q.2.1)) rfl (fun t44 => ?_) (fun t44 => ?_)
          · skip
            refine Cd.seq (fun K45 hK45 => ?_)
            refine Cd.region [0, 1, 2] rfl ?_
            refine Seq.rd0 at0 rfl rfl (O.build rfl (cs := (Stamp_enc Stamp.zero)) (by kernel_rfl)) ?_
            refine Seq.op at1 rfl (Op.set3 rfl (O.store kd_24 (by exact s17) (v := .agg _) rfl (Stamp_size _) (Stamp_room (Stamp_size _)) (Stamp_one _) (Stamp_put _ (Stamp_size _))) ?_)
            refine Seq.rd0 at2 rfl rfl (O.assign (v := .int .i64 _) rfl) ?_
            refine Seq.nil ?_
            refine hK45 ?_
            refine Cd.ret ?_
            exact hR _ ((p, .cells #[.pointer (some ⟨sb, 0, none⟩), .map (some lm), .int .i64 bg, .int .i64 la] 203 (0, 0)) :: (lm, .map es3 ck) :: (L1 ++ (C1 ++ L))) (Res.cell2 (v := .int .i64 _) rfl kd_24 (by exact s17) rfl Rd.head.cons.cons.cons rfl) ⟨Stamp.zero, 9, l, la, es3, L1, rfl, hMes3, hSo, .inr (.inl ⟨hne, ⟨_, permQ hp hpm, by unfold conK; simp_all⟩, rfl, rfl, rfl, rfl⟩), rfl⟩ (.cons _ (.cons _ (.cons _ (.cons _ (.cons_cons _ (.cons_cons _ (.cons _ (.cons _ (.refl _)))))))))
          · skip
            refine Cd.skip ?_
            refine Ent.drop ?_
            refine Ent.drop ?_
            exact hK20 _ (step_dec hpm) ⟨pre ++ [(a, u)], rest', it', rfl, (by exact s16), (by exact s17), (by exact s18), (by exact s19), rfl, hi', permM hp hpm, conN hz (by unfold conK; simp_all)⟩

end Go.X

namespace Go.X
open Go.Proofs

/-! ## chain.Trim -/
def trimN (vs : List Version) (s : Stamp) : Nat := if 0 < upto vs s ∧ ((vs[upto vs s - 1]?).getD .zero).gone = false then upto vs s - 1 else upto vs s
theorem trimN_le {vs : List Version} {s : Stamp} (h : Sorted vs) : trimN vs s ≤ vs.length := by
  have := upto_le (s := s) h
  unfold trimN; split <;> omega
theorem rows_cut {α : Type} {enc : α → Array Value} {xs : List α} {sp : Array Value} (i : Nat) : rows enc xs ++ sp = rows enc (xs.take i) ++ (rows enc (xs.drop i) ++ sp) := by
  rw [← Array.append_assoc, ← rows_append, List.take_append_drop]
theorem SlAt.dropL {c : Cx} {L : List Pt} {α : Type} {enc : α → Array Value} {xs : List α} {sp : Array Value} {b cap el sz : Nat} {fz : Nat × Nat} {i : Int} (hs : ∀ x, (enc x).size = sz) (hb : Rd c L b (.cells (rows enc xs ++ sp) el fz)) (_h0 : 0 ≤ i) (h1 : i ≤ xs.length) (hcap : xs.length ≤ cap) (hlt : xs.length < 4611686018427387904) :
    SlAt c L enc (some (if cap = i.toNat then ⟨b, 0, none⟩ else ⟨b, 0 + i.toNat * sz, none⟩)) (xs.length - i.toNat) (xs.drop i.toNat) := by
  refine ⟨by rw [List.length_drop], by omega, fun hne => ?_⟩
  have hl : i.toNat < xs.length := by
    rcases Nat.lt_or_ge i.toNat xs.length with h | h
    · exact h
    · exact absurd (List.drop_eq_nil_of_le h) hne
  rw [if_neg (by omega)]
  have hz : (rows enc (xs.take i.toNat)).size = i.toNat * sz := by rw [rows_size hs, List.length_take, Nat.min_eq_left (by omega)]
  refine ⟨rows enc (xs.take i.toNat), sp, el, fz, by rw [hz, Nat.zero_add]; rfl, ?_⟩
  rw [← rows_cut]; exact hb

set_option maxRecDepth 100000 in
set_option maxHeartbeats 2000000 in
theorem C_Trim_nil {c : Cx} {L : List Pt} {cb : Nat} {s : Stamp} : Fn Tryz.prog 204 #[.pointer (some ⟨cb, 0, none⟩), .agg (Stamp_enc s)] c ((cb, .cells #[.slice none 0 0] 300 (0, 0)) :: L) (fun v L' => v = .int .i64 (trimN [] s : Nat) ∧ ∃ G', One cb (List.drop (trimN [] s) []) G' ∧ L' = G' ++ L) := by
  refine Fn.enter Tryz.func204 rfl 36 rfl rfl (fun R hR => ?_)
  refine Cd.seq (fun K1 hK1 => ?_)
  refine Cd.region [0, 1] rfl ?_
  refine Seq.op at0 rfl (Op.new rfl (O.box (v := .agg _) rfl (cs := (Stamp_enc s)) rfl) ?_)
  intro b2 hb2
  refine Seq.rd0 at1 rfl rfl (O.assign (v := .int .i64 _) rfl) ?_
  refine Seq.nil ?_
  refine hK1 ?_
  refine Cd.seq (fun K3 hK3 => ?_)
  refine Cd.region [0, 1, 2, 3] rfl ?_
  refine Seq.rd0 at0 rfl rfl (O.move (v := .pointer _) rfl) ?_
  refine Seq.rd1 at1 rfl rfl (O.loadA kd_24 rfl (Nat.le_of_ble_eq_true rfl) (Stamp_all _)) Rd.head ?_
  refine Seq.op at2 rfl (Op.callF rfl hb_226 (C_until .nil (by decide) (.inl ⟨rfl, Rd.head.cons⟩)) rfl ?_)
  rintro _ _ ⟨rfl, rfl⟩
  refine Seq.rd0 at3 rfl rfl (O.assign (v := .int .i64 _) rfl) ?_
  refine Seq.nil ?_
  refine hK3 ?_
  refine Cd.seq (fun K4 hK4 => ?_)
  refine Cd.seq (fun K5 hK5 => ?_)
  refine Cd.region [0, 1, 2, 3, 4, 5, 6, 7, 8, 9, 10, 11, 12, 13] rfl ?_
  refine Seq.rd0 at0 rfl rfl (O.move (v := .int .i64 _) rfl) ?_
  refine Seq.rd0 at1 rfl rfl (O.gtr rfl rfl) ?_
  refine Seq.rd0 at2 rfl rfl (O.move (v := .bool _) rfl) ?_
  have t6 : ¬ ((0 : Int) < ((upto [] s : Nat) : Int)) := by have : upto [] s = 0 := rfl; omega
  rw [decide_eq_false t6]
  refine Seq.pass at3 rfl rfl ?_
  refine Seq.pass at4 rfl rfl ?_
  refine Seq.pass at5 rfl rfl ?_
  refine Seq.pass at6 rfl rfl ?_
  refine Seq.pass at7 rfl rfl ?_
  refine Seq.pass at8 rfl rfl ?_
  refine Seq.pass at9 rfl rfl ?_
  refine Seq.pass at10 rfl rfl ?_
  refine Seq.pass at11 rfl rfl ?_
  refine Seq.pass at12 rfl rfl ?_
  refine Seq.rd0 at13 rfl rfl (O.pickF (v := .bool _) rfl rfl) ?_
  refine Seq.nil ?_
  refine hK5 ?_
  refine Cd.condF rfl ?_
  refine Cd.skip ?_
  refine hK4 ?_
  refine Cd.seq (fun K7 hK7 => ?_)
  refine Cd.region [0, 1, 2, 3, 4, 5, 6, 7, 8, 9, 10] rfl ?_
  refine Seq.rd0 at0 rfl rfl (O.move (v := .pointer _) rfl) ?_
  refine Seq.rd0 at1 rfl rfl (O.move (v := .pointer _) rfl) ?_
  refine Seq.rd0 at2 rfl rfl (O.nilP rfl) ?_
  refine Seq.rd0 at3 rfl rfl (O.field fo_300_0 rfl) ?_
  refine Seq.rd1 at4 rfl rfl (O.load kd_239 rfl r1_0) Rd.head.cons ?_
  refine Seq.rd0 at5 rfl rfl (O.move (v := .int .i64 _) rfl) ?_
  refine Seq.rd0 at6 rfl rfl (O.sliceNil sl_239 rfl rfl) ?_
  refine Seq.op at7 rfl (Op.callF rfl hb_240 (C_Clone_Version (xs := []) ⟨rfl, by decide, fun h => absurd rfl h⟩ (by simp)) rfl ?_)
  rintro _ _ ⟨avc, capc, Lc, rfl, hoc, rfl⟩
  refine Ent.perm ?_ (bring (Ls := Lc) (pre := [(b2, _), (cb, _)]) (R := L)).symm
  refine Seq.rd0 at8 rfl rfl (O.nilP rfl) ?_
  refine Seq.rd0 at9 rfl rfl (O.field fo_300_0 rfl) ?_
  refine Seq.op at10 rfl (Op.set1 rfl (O.store1 kd_239 rfl (v := .slice _ _ _) rfl (Nat.le_of_ble_eq_true rfl) rfl (cs' := #[.slice avc 0 capc]) rfl) ?_)
  refine Seq.nil ?_
  refine hK7 ?_
  refine Cd.seq (fun K8 hK8 => ?_)
  refine Cd.region [0, 1] rfl ?_
  refine Seq.rd0 at0 rfl rfl (O.move (v := .int .i64 _) rfl) ?_
  refine Seq.rd0 at1 rfl rfl (O.assign (v := .int .i64 _) rfl) ?_
  refine Seq.nil ?_
  refine hK8 ?_
  refine Cd.ret ?_
  exact hR _ ((cb, .cells #[.slice avc 0 capc] 300 (0, 0)) :: (Lc ++ L)) (Res.one (v := .int .i64 _) rfl rfl) ⟨rfl, (cb, .cells #[.slice avc 0 capc] 300 (0, 0)) :: Lc, ⟨avc, capc, Lc, rfl, hoc, .nil, by simp⟩, rfl⟩ (.cons _ (.refl _))

set_option maxRecDepth 100000 in
set_option maxHeartbeats 2000000 in
theorem C_Trim_own {c : Cx} {L : List Pt} {cb b cap : Nat} {vs : List Version} {s : Stamp} {sp : Array Value} (hs : Sorted vs) (h50 : vs.length ≤ 50) (hcap : vs.length ≤ cap) : Fn Tryz.prog 204 #[.pointer (some ⟨cb, 0, none⟩), .agg (Stamp_enc s)] c ((cb, .cells #[.slice (some ⟨b, 0, none⟩) vs.length cap] 300 (0, 0)) :: (b, .cells (rows Version_enc vs ++ sp) 242 (0, 0)) :: L) (fun v L' => v = .int .i64 (trimN vs s : Nat) ∧ ∃ G', One cb (List.drop (trimN vs s) vs) G' ∧ L' = G' ++ L) := by
  refine Fn.enter Tryz.func204 rfl 36 rfl rfl (fun R hR => ?_)
  refine Cd.seq (fun K1 hK1 => ?_)
  refine Cd.region [0, 1] rfl ?_
  refine Seq.op at0 rfl (Op.new rfl (O.box (v := .agg _) rfl (cs := (Stamp_enc s)) rfl) ?_)
  intro b2 hb2
  refine Seq.rd0 at1 rfl rfl (O.assign (v := .int .i64 _) rfl) ?_
  refine Seq.nil ?_
  refine hK1 ?_
  refine Cd.seq (fun K3 hK3 => ?_)
  refine Cd.region [0, 1, 2, 3] rfl ?_
  refine Seq.rd0 at0 rfl rfl (O.move (v := .pointer _) rfl) ?_
  refine Seq.rd1 at1 rfl rfl (O.loadA kd_24 rfl (Nat.le_of_ble_eq_true rfl) (Stamp_all _)) Rd.head ?_
  refine Seq.op at2 rfl (Op.callF rfl hb_226 (C_until hs (by omega) (.inr ⟨_, _, _, Rd.head.cons, Rd.head.cons.cons⟩)) rfl ?_)
  rintro _ _ ⟨rfl, rfl⟩
  have hul := upto_le (s := s) hs
  refine Seq.rd0 at3 rfl rfl (O.assign (v := .int .i64 _) rfl) ?_
  refine Seq.nil ?_
  refine hK3 ?_
  refine Cd.seq (fun K4 hK4 => ?_)
  refine Cd.seq (fun K5 hK5 => ?_)
  refine Cd.region [0, 1, 2, 3, 4, 5, 6, 7, 8, 9, 10, 11, 12, 13] rfl ?_
  refine Seq.rd0 at0 rfl rfl (O.move (v := .int .i64 _) rfl) ?_
  refine Seq.rd0 at1 rfl rfl (O.gtr rfl rfl) ?_
  refine Seq.rd0 at2 rfl rfl (O.move (v := .bool _) rfl) ?_
  by_cases t6 : (0 : Int) < ((upto vs s : Nat) : Int)
  · rw [decide_eq_true t6]
    refine Seq.rd0 at3 rfl rfl (O.move (v := .pointer _) rfl) ?_
    refine Seq.rd0 at4 rfl rfl (O.nilP rfl) ?_
    refine Seq.rd0 at5 rfl rfl (O.field fo_300_0 rfl) ?_
    refine Seq.rd1 at6 rfl rfl (O.load kd_239 rfl r1_0) Rd.head.cons ?_
    refine Seq.rd0 at7 rfl rfl (O.move (v := .int .i64 _) rfl) ?_
    refine Seq.rd0 at8 rfl rfl (O.sub rfl rfl (by omega) (by omega)) ?_
    refine Seq.rd0 at9 rfl rfl (O.index sl_239 rfl rfl (by omega) (by omega)) ?_
    refine Seq.rd0 at10 rfl rfl (O.field fo_242_2 rfl) ?_
    refine Seq.rd1 at11 rfl rfl (O.load kd_4 rfl ((rowGet Version_size (uptoN hs (by omega)) (by decide)).trans (Version_gone _))) Rd.head.cons.cons ?_
    refine Seq.rd0 at12 rfl rfl (O.not rfl) ?_
    refine Seq.rd0 at13 rfl rfl (O.pickT (v := .bool _) rfl rfl) ?_
    refine Seq.nil ?_
    refine hK5 ?_
    refine Cd.cond (!((vs[upto vs s - 1]).gone)) rfl (fun t7 => ?_) (fun t7 => ?_)
    · skip
      refine Cd.region [0, 1, 2] rfl ?_
      refine Seq.rd0 at0 rfl rfl (O.move (v := .int .i64 _) rfl) ?_
      refine Seq.rd0 at1 rfl rfl (O.sub rfl rfl (by omega) (by omega)) ?_
      refine Seq.rd0 at2 rfl rfl (O.assign (v := .int .i64 _) rfl) ?_
      refine Seq.nil ?_
      refine hK4 ?_
      refine Cd.seq (fun K8 hK8 => ?_)
      refine Cd.region [0, 1, 2, 3, 4, 5, 6, 7, 8, 9, 10] rfl ?_
      refine Seq.rd0 at0 rfl rfl (O.move (v := .pointer _) rfl) ?_
      refine Seq.rd0 at1 rfl rfl (O.move (v := .pointer _) rfl) ?_
      refine Seq.rd0 at2 rfl rfl (O.nilP rfl) ?_
      refine Seq.rd0 at3 rfl rfl (O.field fo_300_0 rfl) ?_
      refine Seq.rd1 at4 rfl rfl (O.load kd_239 rfl r1_0) Rd.head.cons ?_
      refine Seq.rd0 at5 rfl rfl (O.move (v := .int .i64 _) rfl) ?_
      refine Seq.rd0 at6 rfl rfl (O.sliceL sl_239 rfl rfl (by omega) (by omega)) ?_
      refine Seq.op at7 rfl (Op.callF rfl hb_240 (C_Clone_Version (SlAt.dropL Version_size (Rd.head.cons.cons) (by omega) (by omega) hcap (by omega)) (by omega)) rfl ?_)
      rintro _ _ ⟨avc, capc, Lc, rfl, hoc, rfl⟩
      refine Ent.perm ?_ (bring (Ls := Lc) (pre := [(b2, _), (cb, _), (b, _)]) (R := L)).symm
      refine Seq.rd0 at8 rfl rfl (O.nilP rfl) ?_
      refine Seq.rd0 at9 rfl rfl (O.field fo_300_0 rfl) ?_
      refine Seq.op at10 rfl (Op.set1 rfl (O.store1 kd_239 rfl (v := .slice _ _ _) rfl (Nat.le_of_ble_eq_true rfl) rfl (cs' := #[.slice avc (vs.length - ((((upto vs s : Nat) : Int) - 1)).toNat) capc]) rfl) ?_)
      refine Seq.nil ?_
      refine hK8 ?_
      refine Cd.seq (fun K9 hK9 => ?_)
      refine Cd.region [0, 1] rfl ?_
      refine Seq.rd0 at0 rfl rfl (O.move (v := .int .i64 _) rfl) ?_
      refine Seq.rd0 at1 rfl rfl (O.assign (v := .int .i64 _) rfl) ?_
      refine Seq.nil ?_
      refine hK9 ?_
      refine Cd.ret ?_
      have htn : trimN vs s = ((((upto vs s : Nat) : Int) - 1)).toNat := by
        unfold trimN; rw [if_pos ⟨by omega, by rw [show vs[upto vs s - 1]? = some (vs[upto vs s - 1]'(by omega)) from List.getElem?_eq_getElem (by omega)]; simp_all⟩]; omega
      have hdl : (vs.drop ((((upto vs s : Nat) : Int) - 1)).toNat).length = vs.length - ((((upto vs s : Nat) : Int) - 1)).toNat := List.length_drop
      have hone : One cb (vs.drop (trimN vs s)) ((cb, .cells #[.slice avc (vs.length - ((((upto vs s : Nat) : Int) - 1)).toNat) capc] 300 (0, 0)) :: Lc) := by
        rw [htn]; exact ⟨avc, capc, Lc, by rw [hdl], by rw [hdl]; exact hoc, hs.sublist (List.drop_sublist _ _), by rw [hdl]; omega⟩
      exact hR _ ((cb, .cells #[.slice avc (vs.length - ((((upto vs s : Nat) : Int) - 1)).toNat) capc] 300 (0, 0)) :: (Lc ++ L)) (Res.one (v := .int .i64 _) rfl rfl) ⟨by rw [htn]; congr 1; omega, _, hone, rfl⟩ (.cons _ (.cons_cons _ (.cons _ (.refl _))))
    · skip
      refine Cd.skip ?_
      refine hK4 ?_
      refine Cd.seq (fun K10 hK10 => ?_)
      refine Cd.region [0, 1, 2, 3, 4, 5, 6, 7, 8, 9, 10] rfl ?_
      refine Seq.rd0 at0 rfl rfl (O.move (v := .pointer _) rfl) ?_
      refine Seq.rd0 at1 rfl rfl (O.move (v := .pointer _) rfl) ?_
      refine Seq.rd0 at2 rfl rfl (O.nilP rfl) ?_
      refine Seq.rd0 at3 rfl rfl (O.field fo_300_0 rfl) ?_
      refine Seq.rd1 at4 rfl rfl (O.load kd_239 rfl r1_0) Rd.head.cons ?_
      refine Seq.rd0 at5 rfl rfl (O.move (v := .int .i64 _) rfl) ?_
      refine Seq.rd0 at6 rfl rfl (O.sliceL sl_239 rfl rfl (by omega) (by omega)) ?_
      refine Seq.op at7 rfl (Op.callF rfl hb_240 (C_Clone_Version (SlAt.dropL Version_size (Rd.head.cons.cons) (by omega) (by omega) hcap (by omega)) (by omega)) rfl ?_)
      rintro _ _ ⟨avc, capc, Lc, rfl, hoc, rfl⟩
      refine Ent.perm ?_ (bring (Ls := Lc) (pre := [(b2, _), (cb, _), (b, _)]) (R := L)).symm
      refine Seq.rd0 at8 rfl rfl (O.nilP rfl) ?_
      refine Seq.rd0 at9 rfl rfl (O.field fo_300_0 rfl) ?_
      refine Seq.op at10 rfl (Op.set1 rfl (O.store1 kd_239 rfl (v := .slice _ _ _) rfl (Nat.le_of_ble_eq_true rfl) rfl (cs' := #[.slice avc (vs.length - (((upto vs s : Nat) : Int)).toNat) capc]) rfl) ?_)
      refine Seq.nil ?_
      refine hK10 ?_
      refine Cd.seq (fun K11 hK11 => ?_)
      refine Cd.region [0, 1] rfl ?_
      refine Seq.rd0 at0 rfl rfl (O.move (v := .int .i64 _) rfl) ?_
      refine Seq.rd0 at1 rfl rfl (O.assign (v := .int .i64 _) rfl) ?_
      refine Seq.nil ?_
      refine hK11 ?_
      refine Cd.ret ?_
      have htn : trimN vs s = (((upto vs s : Nat) : Int)).toNat := by
        unfold trimN; rw [if_neg (by rintro ⟨h8, h9⟩; first | omega | (rw [show vs[upto vs s - 1]? = some (vs[upto vs s - 1]'(by omega)) from List.getElem?_eq_getElem (by omega)] at h9; simp_all))]; omega
      have hdl : (vs.drop (((upto vs s : Nat) : Int)).toNat).length = vs.length - (((upto vs s : Nat) : Int)).toNat := List.length_drop
      have hone : One cb (vs.drop (trimN vs s)) ((cb, .cells #[.slice avc (vs.length - (((upto vs s : Nat) : Int)).toNat) capc] 300 (0, 0)) :: Lc) := by
        rw [htn]; exact ⟨avc, capc, Lc, by rw [hdl], by rw [hdl]; exact hoc, hs.sublist (List.drop_sublist _ _), by rw [hdl]; omega⟩
      exact hR _ ((cb, .cells #[.slice avc (vs.length - (((upto vs s : Nat) : Int)).toNat) capc] 300 (0, 0)) :: (Lc ++ L)) (Res.one (v := .int .i64 _) rfl rfl) ⟨by rw [htn]; congr 1, _, hone, rfl⟩ (.cons _ (.cons_cons _ (.cons _ (.refl _))))
  · rw [decide_eq_false t6]
    refine Seq.pass at3 rfl rfl ?_
    refine Seq.pass at4 rfl rfl ?_
    refine Seq.pass at5 rfl rfl ?_
    refine Seq.pass at6 rfl rfl ?_
    refine Seq.pass at7 rfl rfl ?_
    refine Seq.pass at8 rfl rfl ?_
    refine Seq.pass at9 rfl rfl ?_
    refine Seq.pass at10 rfl rfl ?_
    refine Seq.pass at11 rfl rfl ?_
    refine Seq.pass at12 rfl rfl ?_
    refine Seq.rd0 at13 rfl rfl (O.pickF (v := .bool _) rfl rfl) ?_
    refine Seq.nil ?_
    refine hK5 ?_
    refine Cd.condF rfl ?_
    refine Cd.skip ?_
    refine hK4 ?_
    refine Cd.seq (fun K12 hK12 => ?_)
    refine Cd.region [0, 1, 2, 3, 4, 5, 6, 7, 8, 9, 10] rfl ?_
    refine Seq.rd0 at0 rfl rfl (O.move (v := .pointer _) rfl) ?_
    refine Seq.rd0 at1 rfl rfl (O.move (v := .pointer _) rfl) ?_
    refine Seq.rd0 at2 rfl rfl (O.nilP rfl) ?_
    refine Seq.rd0 at3 rfl rfl (O.field fo_300_0 rfl) ?_
    refine Seq.rd1 at4 rfl rfl (O.load kd_239 rfl r1_0) Rd.head.cons ?_
    refine Seq.rd0 at5 rfl rfl (O.move (v := .int .i64 _) rfl) ?_
    refine Seq.rd0 at6 rfl rfl (O.sliceL sl_239 rfl rfl (by omega) (by omega)) ?_
    refine Seq.op at7 rfl (Op.callF rfl hb_240 (C_Clone_Version (SlAt.dropL Version_size (Rd.head.cons.cons) (by omega) (by omega) hcap (by omega)) (by omega)) rfl ?_)
    rintro _ _ ⟨avc, capc, Lc, rfl, hoc, rfl⟩
    refine Ent.perm ?_ (bring (Ls := Lc) (pre := [(b2, _), (cb, _), (b, _)]) (R := L)).symm
    refine Seq.rd0 at8 rfl rfl (O.nilP rfl) ?_
    refine Seq.rd0 at9 rfl rfl (O.field fo_300_0 rfl) ?_
    refine Seq.op at10 rfl (Op.set1 rfl (O.store1 kd_239 rfl (v := .slice _ _ _) rfl (Nat.le_of_ble_eq_true rfl) rfl (cs' := #[.slice avc (vs.length - (((upto vs s : Nat) : Int)).toNat) capc]) rfl) ?_)
    refine Seq.nil ?_
    refine hK12 ?_
    refine Cd.seq (fun K13 hK13 => ?_)
    refine Cd.region [0, 1] rfl ?_
    refine Seq.rd0 at0 rfl rfl (O.move (v := .int .i64 _) rfl) ?_
    refine Seq.rd0 at1 rfl rfl (O.assign (v := .int .i64 _) rfl) ?_
    refine Seq.nil ?_
    refine hK13 ?_
    refine Cd.ret ?_
    have htn : trimN vs s = (((upto vs s : Nat) : Int)).toNat := by
      unfold trimN; rw [if_neg (by rintro ⟨h8, h9⟩; first | omega | (rw [show vs[upto vs s - 1]? = some (vs[upto vs s - 1]'(by omega)) from List.getElem?_eq_getElem (by omega)] at h9; simp_all))]; omega
    have hdl : (vs.drop (((upto vs s : Nat) : Int)).toNat).length = vs.length - (((upto vs s : Nat) : Int)).toNat := List.length_drop
    have hone : One cb (vs.drop (trimN vs s)) ((cb, .cells #[.slice avc (vs.length - (((upto vs s : Nat) : Int)).toNat) capc] 300 (0, 0)) :: Lc) := by
      rw [htn]; exact ⟨avc, capc, Lc, by rw [hdl], by rw [hdl]; exact hoc, hs.sublist (List.drop_sublist _ _), by rw [hdl]; omega⟩
    exact hR _ ((cb, .cells #[.slice avc (vs.length - (((upto vs s : Nat) : Int)).toNat) capc] 300 (0, 0)) :: (Lc ++ L)) (Res.one (v := .int .i64 _) rfl rfl) ⟨by rw [htn]; congr 1, _, hone, rfl⟩ (.cons _ (.cons_cons _ (.cons _ (.refl _))))

theorem C_chain_Trim {c : Cx} {R G : List Pt} {cb : Nat} {vs : List Version} {s : Stamp} (hO : One cb vs G) :
    Fn Tryz.prog 204 #[.pointer (some ⟨cb, 0, none⟩), .agg (Stamp_enc s)] c (G ++ R) (fun v L' => v = .int .i64 (trimN vs s : Nat) ∧ ∃ G', One cb (vs.drop (trimN vs s)) G' ∧ L' = G' ++ R) := by
  obtain ⟨av, cap, Ls, rfl, h1, h2, h3⟩ := hO
  rcases h1 with ⟨h0, _, hv, rfl⟩ | ⟨b, cap', sp, hv, h4, h5, h6, rfl⟩
  · obtain rfl : vs = [] := List.length_eq_zero_iff.1 h0
    obtain ⟨rfl, rfl⟩ : av = none ∧ cap = 0 := by simpa using hv
    exact C_Trim_nil (L := R)
  · obtain ⟨rfl, rfl⟩ : av = some ⟨b, 0, none⟩ ∧ cap = cap' := by simpa using hv
    exact C_Trim_own (L := R) h2 h3 h4

end Go.X

/- The engine, part 17: deleting while a map is gone over. -/
namespace Go.X
section
variable {P : Program} {c : Cx} {L : List Pt} {e : Env} {x y : Operand} {d : Option Tmp} {ty : TypeId} {p : String} {af : Array Edge} {g : Option (Nat × Bool)}
variable {K V : Type} {encK : K → Value} {encV : V → Value}
/-- the entry of a key is gone -/
structure DelAt (encK : K → Value) (es es' : Array MapEntry) (a : K) : Prop where
  ex : ∃ j q, es.toList[j]? = some q ∧ q.key = encK a ∧ es'.toList = es.toList.eraseIdx j
theorem O.mapDel2 [DecidableEq K] {t k kt el b : Nat} {es : Array MapEntry} {ck : Nat} {l : List (K × V)} {a : K} (ht : P.underlying t = some (.map k el)) (KK : IsKey P k encK) (h : MapIs encK encV es ck l) (hin : a ∈ l.map Prod.fst)
    (hx : ev e x = .map (some b)) (hy : ev e y = encK a) {A B : List Pt} (hL : L = A ++ (b, .map es ck) :: B) :
    Eg P e ⟨d, .call { callee := .builtin .delete, args := #[x, y], argTypes := #[t, kt] }, ty, p, af, g⟩ c L (fun v L' => v = .tuple #[] ∧ ∃ es', MapIs encK encV es' ck (adel l a) ∧ DelAt encK es es' a ∧ L' = A ++ (b, .map es' ck) :: B) := by
  subst hL
  intro w hw
  have hb := hw.look (b, .map es ck) (by simp)
  rcases run_find KK h a w with ⟨h1, h2⟩ | ⟨j, v, q, h1, h2, h3, h4⟩
  · exact absurd hin h1
  · have hj : j < es.size := by
      rcases Nat.lt_or_ge j es.toList.length with h' | h'
      · simpa using h'
      · rw [List.getElem?_eq_none h'] at h2; cases h2
    have htl : (es.eraseIdxIfInBounds j).toList = es.toList.eraseIdx j := by
      simp [Array.eraseIdxIfInBounds, hj]
    refine ⟨_, _, _, .inl ?_, ⟨rfl, es.eraseIdxIfInBounds j, ?_, ⟨j, q, h2, h3, htl⟩, rfl⟩, hw.set⟩
    · simp [execOp, resolve, invoke, builtin, Builtin.delete_, hx, hy, run_under ht, run_getMap hb, run_check KK, h4, run_setMap hb]
    · rw [(alook_at h.keys h1).2.2]
      refine ⟨?_, ?_, ?_, ?_⟩
      · rw [htl, map_erase, map_erase, h.ents]
      · rw [map_erase]; exact (List.eraseIdx_sublist _ _).nodup h.keys
      · rw [htl, map_erase]; exact (List.eraseIdx_sublist _ _).nodup h.born
      · intro r hr; rw [htl] at hr; exact h.clock r (List.mem_of_mem_eraseIdx hr)
theorem filter_erase {α : Type} {f : α → Bool} : ∀ {l : List α} {j : Nat} {q : α}, l[j]? = some q → f q = false → (l.eraseIdx j).filter f = l.filter f
  | [], _, _, h, _ => by simp at h
  | r :: l, 0, q, h, hf => by
    obtain rfl : r = q := by simpa using h
    simp [hf]
  | r :: l, j + 1, q, h, hf => by
    simp only [List.getElem?_cons_succ] at h
    simp only [List.eraseIdx_cons_succ, List.filter_cons, filter_erase h hf]
theorem MapIs.one {k : TypeId} (KK : IsKey P k encK) {es : Array MapEntry} {ck : Nat} {l : List (K × V)} (h : MapIs encK encV es ck l) {a : K} {i j : Nat} {q r : MapEntry} (hi : es.toList[i]? = some q) (hj : es.toList[j]? = some r)
    (hq : q.key = encK a) (hr : r.key = encK a) : q = r := by
  obtain ⟨x1, v1, h1, h2, _⟩ := h.at_ hi
  obtain ⟨x2, v2, h3, h4, _⟩ := h.at_ hj
  obtain rfl : x1 = a := KK.inj _ _ (h2.symm.trans hq)
  obtain rfl : x2 = x1 := KK.inj _ _ (h4.symm.trans hr)
  have hn := h.keys
  have hi1 : i < l.length := by
    rcases Nat.lt_or_ge i l.length with h' | h'
    · exact h'
    · rw [List.getElem?_eq_none h'] at h1; cases h1
  have hj1 : j < l.length := by
    rcases Nat.lt_or_ge j l.length with h' | h'
    · exact h'
    · rw [List.getElem?_eq_none h'] at h3; cases h3
  rw [List.getElem?_eq_getElem hi1] at h1
  rw [List.getElem?_eq_getElem hj1] at h3
  have he : i = j := (List.getElem_inj (xs := l.map Prod.fst) (h₀ := by simpa using hi1) (h₁ := by simpa using hj1) hn).1 (by
    simp only [List.getElem_map, Option.some.inj h1, Option.some.inj h3])
  subst he
  rw [hi] at hj
  exact Option.some.inj hj
/-- the step; and what stays to come when the entry is deleted -/
theorem O.next2 {k : TypeId} (KK : IsKey P k encK) {r bm : Nat} {it : Obj} {es : Array MapEntry} {ck : Nat} {l rest : List (K × V)} {R : List Pt} (h : MapIs encK encV es ck l) (hi : ItIs encK encV es ck bm rest it)
    (hx : ev e x = .pointer (some ⟨r, 0, none⟩)) (hr : Rd c ((r, it) :: R) bm (.map es ck)) :
    Eg P e ⟨d, .next x false, ty, p, af, g⟩ c ((r, it) :: R) (fun v L' =>
      (rest = [] ∧ v = .tuple #[.bool false] ∧ L' = (r, it) :: R) ∨
      (∃ a u rest' it', rest.Perm ((a, u) :: rest') ∧ v = .tuple #[.bool true, encK a, encV u] ∧ ItIs encK encV es ck bm rest' it' ∧ (∀ es', DelAt encK es es' a → ItIs encK encV es' ck bm rest' it') ∧
        (∀ e' : Env, ∀ x' : Operand, ev e' x' = .pointer (some ⟨r, 0, none⟩) → ∀ {L2 : List Pt} {d2 : Option Tmp} {ty2 : TypeId} {p2 : String} {af2 : Array Edge} {g2 : Option (Nat × Bool)}, Rd c L2 r it' → Rd c L2 bm (.map es ck) →
          Eg P e' ⟨d2, .entry x', ty2, p2, af2, g2⟩ c L2 (fun v2 L3 => v2 = .tuple #[encK a, encV u] ∧ L3 = L2)) ∧ L' = (r, it') :: R)) := by
  intro w hw
  obtain ⟨since, seen, c0, rfl, hold, hsc, hck, hl⟩ := hi.ex
  have hb := hr w hw
  have hrr := hw.look _ (List.mem_cons_self)
  rcases run_next_at (P := P) w ty r bm since c0 seen es ck hrr hb hold hsc with ⟨h0, hrun⟩ | ⟨q, hq, w1, hw1, hrun⟩
  · refine ⟨_, _, _, .inl ?_, .inl ⟨?_, rfl, rfl⟩, hw⟩
    · simp [execOp, hx, hrun]
    · have := congrArg List.length hl
      simp only [List.length_map, Array.length_toList, h0] at this
      exact List.length_eq_zero_iff.1 this.symm
  · obtain ⟨j, hj, hjq⟩ := List.getElem_of_mem hq
    have hjq' : (leftOf es seen).toList[j]? = some q := by rw [List.getElem?_eq_getElem hj, hjq]
    have hrj := congrArg (fun l => l[j]?) hl
    simp only [List.getElem?_map, hjq', Option.map_some] at hrj
    cases hrest : rest[j]? with
    | none => rw [hrest] at hrj; cases hrj
    | some au =>
      obtain ⟨a, u⟩ := au
      rw [hrest] at hrj
      simp only [Option.map_some, Option.some.injEq, Prod.mk.injEq] at hrj
      have hqe : q ∈ es.toList := by
        have : q ∈ (es.filter fun e => !seen.contains e.born).toList := hq
        simp at this; simpa using this.1
      have hst : St c ((r, .mapIter (some bm) since seen c0) :: R) w1 := by
        rcases hw1 with rfl | rfl
        · exact hw
        · exact hw.drew _
      have h3 : (leftOf es (seen.push q.born)).toList.map (fun q => (q.key, q.val)) = (rest.eraseIdx j).map (fun q => (encK q.1, encV q.2)) := by
        have h3 : (leftOf es (seen.push q.born)).toList = (leftOf es seen).toList.eraseIdx j := by
          have := nodup_filter_erase h.born (seen := seen) (j := j) (q := q) (by simpa [leftOf] using hjq')
          simpa [leftOf] using this
        rw [h3, map_erase, map_erase, hl]
      refine ⟨_, setBlk w1 r (.mapIter (some bm) since (seen.push q.born) ck), _, .inl ?_, .inr ⟨a, u, rest.eraseIdx j, _, ?_, rfl, ⟨⟨since, seen.push q.born, ck, rfl, hold, hck, hck, h3⟩⟩, ?_, ?_, rfl⟩, St.set (A := []) hst⟩
      · rw [hrj.1, hrj.2] at hrun
        simp [execOp, hx, hrun]
        rfl
      · have hlt : j < rest.length := by
          rcases Nat.lt_or_ge j rest.length with h' | h'
          · exact h'
          · rw [List.getElem?_eq_none h'] at hrest; cases hrest
        have : rest[j] = (a, u) := by rw [List.getElem?_eq_getElem hlt] at hrest; exact Option.some.inj hrest
        rw [← this]
        exact erase_perm hlt
      · rintro es' ⟨i, q', hi1, hi2, hi3⟩
        obtain ⟨jj, hjj, hjjq⟩ := List.getElem_of_mem hqe
        have hqq : q' = q := MapIs.one KK h hi1 (by rw [List.getElem?_eq_getElem hjj, hjjq]) hi2 hrj.1
        subst hqq
        refine ⟨⟨since, seen.push q'.born, ck, rfl, fun s hs => hold s ?_, hck, hck, ?_⟩⟩
        · rw [hi3] at hs; exact List.mem_of_mem_eraseIdx hs
        · rw [← h3]
          have h5 : (leftOf es' (seen.push q'.born)).toList = (leftOf es (seen.push q'.born)).toList := by
            simp only [leftOf, Array.toList_filter]
            rw [hi3]
            exact filter_erase hi1 (by simp)
          rw [h5]
      · intro e' x' hx' L2 d2 ty2 p2 af2 g2 hr2 hb2 w2 hw2
        have := run_entry_at (P := P) w2 r bm since seen es ck q (hr2 w2 hw2) (hb2 w2 hw2) hqe h.born
        refine ⟨_, _, _, .inl ?_, ⟨rfl, rfl⟩, hw2⟩
        rw [hrj.1, hrj.2] at this
        simp [execOp, hx', this]
end
end Go.X

namespace Go.X
open Go.Proofs
theorem hb_204 : hasBody Tryz.prog 204 = true := by kernel_rfl
/-! ## store.Trim -/
def trimS (l : List (Key × CV)) (s : Stamp) : Int := (l.map fun q => (trimN q.2.2 s : Int)).sum
structure TrimR (l : List (Key × CV)) (s : Stamp) (l' : List (Key × CV)) : Prop where
  get : ∀ k, getS l' k = (getS l k).drop (trimN (getS l k) s)
  keys : ∀ k ∈ l'.map Prod.fst, k ∈ l.map Prod.fst
structure TrimI (l : List (Key × CV)) (s : Stamp) (l1 rest : List (Key × CV)) (n : Int) : Prop where
  look : ∀ q ∈ rest, alook l1 q.1 = some q.2
  nd : (rest.map Prod.fst).Nodup
  get : ∀ k, getS l1 k = if k ∈ rest.map Prod.fst then getS l k else (getS l k).drop (trimN (getS l k) s)
  cnt : n + trimS rest s = trimS l s
  keys : ∀ k ∈ l1.map Prod.fst, k ∈ l.map Prod.fst
  size : l1.length ≤ 200
  bnd : 0 ≤ n ∧ n + 50 * rest.length ≤ 10000
theorem perm_sum : ∀ {a b : List Int}, a.Perm b → a.sum = b.sum := by
  intro a b h
  induction h with
  | nil => rfl
  | cons x _ ih => simp [ih]
  | swap x y l => simp only [List.sum_cons]; omega
  | trans _ _ h1 h2 => exact h1.trans h2
theorem alook_of_mem {K V : Type} [DecidableEq K] {l : List (K × V)} (hn : (l.map Prod.fst).Nodup) {q : K × V} (hq : q ∈ l) : alook l q.1 = some q.2 := by
  obtain ⟨j, hj, rfl⟩ := List.getElem_of_mem hq
  exact (alook_at hn (List.getElem?_eq_getElem hj)).1
theorem getS_none {l : List (Key × CV)} {k : Key} (h : k ∉ l.map Prod.fst) : getS l k = [] := by
  unfold getS; rw [(alook_none h).1]
theorem getS_some {l : List (Key × CV)} {k : Key} {q : CV} (h : alook l k = some q) : getS l k = q.2 := by unfold getS; rw [h]
theorem TrimI.init {l : List (Key × CV)} {s : Stamp} (hn : (l.map Prod.fst).Nodup) (h : l.length ≤ 200) : TrimI l s l l 0 where
  look := fun _ hq => alook_of_mem hn hq
  nd := hn
  get := fun k => by
    split
    · rfl
    · rename_i h0; rw [getS_none h0]; simp
  cnt := Int.zero_add _
  keys := fun _ h => h
  size := h
  bnd := ⟨Int.le_refl _, by omega⟩
theorem TrimI.step {l l1 l2 rest rest' : List (Key × CV)} {s : Stamp} {n : Int} {a : Key} {u : CV} (h : TrimI l s l1 rest n) (hpm : rest.Perm ((a, u) :: rest')) (hne : ∀ k, k ≠ a → alook l2 k = alook l1 k) (ha : getS l2 a = u.2.drop (trimN u.2 s))
    (hk : ∀ k ∈ l2.map Prod.fst, k ∈ l1.map Prod.fst) (hl : l2.length ≤ l1.length) (h50 : trimN u.2 s ≤ 50) : TrimI l s l2 rest' (n + (trimN u.2 s : Nat)) := by
  have hnd : a ∉ rest'.map Prod.fst ∧ (rest'.map Prod.fst).Nodup := by
    have := ((hpm.map Prod.fst).nodup_iff).1 h.nd
    simpa using this
  have hau : alook l1 a = some u := h.look (a, u) (hpm.mem_iff.2 (List.mem_cons_self))
  have hga : getS l a = u.2 := by
    have h1 := h.get a
    rw [if_pos ((hpm.map Prod.fst).mem_iff.2 (List.mem_cons_self)), getS_some hau] at h1
    exact h1.symm
  refine ⟨fun q hq => ?_, hnd.2, fun k => ?_, ?_, fun k hk' => h.keys k (hk k hk'), Nat.le_trans hl h.size, ?_⟩
  · have h1 : q.1 ≠ a := fun e => hnd.1 (e ▸ List.mem_map.2 ⟨q, hq, rfl⟩)
    rw [hne _ h1]; exact h.look q (hpm.mem_iff.2 (List.mem_cons_of_mem _ hq))
  · by_cases he : k = a
    · subst he
      rw [if_neg hnd.1, ha, hga]
    · have h1 : getS l2 k = getS l1 k := by unfold getS; rw [hne k he]
      rw [h1, h.get k]
      have h2 : k ∈ rest.map Prod.fst ↔ k ∈ rest'.map Prod.fst := by
        rw [(hpm.map Prod.fst).mem_iff, List.map_cons, List.mem_cons]
        exact ⟨fun h => h.resolve_left he, .inr⟩
      simp only [h2]
  · have h1 : trimS rest s = (trimN u.2 s : Int) + trimS rest' s := by
      unfold trimS
      rw [perm_sum (hpm.map fun q => (trimN q.2.2 s : Int))]
      simp
    have := h.cnt
    omega
  · have h1 := hpm.length_eq
    have := h.bnd
    simp only [List.length_cons] at h1
    omega
theorem aput_keep {K V : Type} [DecidableEq K] {k : K} {q u : V} : ∀ {l : List (K × V)}, alook l k = some q → (aput l k u).map Prod.fst = l.map Prod.fst ∧ (aput l k u).length = l.length ∧
    ∀ {β : Type} (f : V → β), f u = f q → (aput l k u).map (fun r => (r.1, f r.2)) = l.map (fun r => (r.1, f r.2))
  | [], h => by simp [alook] at h
  | (y, v) :: l, h => by
    unfold alook at h
    split at h
    · rename_i he
      obtain rfl := Option.some.inj h
      subst he
      simp only [aput, if_true, List.map_cons, List.length_cons, true_and]
      intro β f hf; rw [hf]
    · rename_i he
      obtain ⟨h1, h2, h3⟩ := aput_keep (u := u) h
      simp only [aput, he, if_false, List.map_cons, List.length_cons, h1, h2, true_and]
      intro β f hf; rw [h3 f hf]
theorem MapIs.upd {K V : Type} [DecidableEq K] {encK : K → Value} {encV : V → Value} {es : Array MapEntry} {ck : Nat} {l : List (K × V)} (h : MapIs encK encV es ck l) {k : K} {q u : V} (hl : alook l k = some q) (hu : encV u = encV q) : MapIs encK encV es ck (aput l k u) := by
  obtain ⟨h1, h2, h3⟩ := aput_keep (u := u) hl
  refine ⟨?_, by rw [h1]; exact h.keys, h.born, h.clock⟩
  have h4 := congrArg (List.map fun r : K × Value => (encK r.1, r.2)) (h3 encV hu)
  simp only [List.map_map, Function.comp_def] at h4
  rw [h.ents]; exact h4.symm
theorem ChOwn.del {k : Key} {q : CV} : ∀ {l : List (Key × CV)} {Cs : List Pt}, ChOwn l Cs → alook l k = some q → ∃ G C1, Cs.Perm (G ++ C1) ∧ ChOwn (adel l k) C1
  | [], _, _, h => by simp [alook] at h
  | (y, u) :: l, Cs, hC, h => by
    obtain ⟨G, C1, rfl, hO, hC1⟩ := hC
    unfold alook at h
    split at h
    · rename_i he
      refine ⟨G, C1, .refl _, ?_⟩
      simp only [adel, he, if_true]; exact hC1
    · rename_i he
      obtain ⟨G2, C2, hp, hd⟩ := ChOwn.del hC1 h
      refine ⟨G2, G ++ C2, (hp.append_left G).trans (List.perm_append_comm_assoc _ _ _), ?_⟩
      simp only [adel, he, if_false]
      exact ⟨G, C2, rfl, hO, hd⟩
theorem C_trimIn {c : Cx} {X Cs R : List Pt} {l : List (Key × CV)} {k : Key} {q : CV} {s : Stamp} (hC : ChOwn l Cs) (hl : alook l k = some q) : Fn Tryz.prog 204 #[.pointer (some ⟨q.1, 0, none⟩), .agg (Stamp_enc s)] c (X ++ (Cs ++ R))
    (fun v L' => v = .int .i64 (trimN q.2 s : Nat) ∧ ∃ Cs', ChOwn (aput l k (q.1, q.2.drop (trimN q.2 s))) Cs' ∧ L' = X ++ (Cs' ++ R)) := by
  obtain ⟨G, C1, hp, hO, hb⟩ := hC.take hl
  refine Fn.perm (L2 := G ++ (X ++ (C1 ++ R))) ?_ (perm3 hp.symm).symm
  refine Fn.post (C_chain_Trim (s := s) hO) fun v L' ⟨hv, G', hG', hL⟩ => ?_
  obtain ⟨Cs', h1, h2⟩ := hb _ _ hG'
  exact ⟨_, ⟨hv, Cs', h1, rfl⟩, by rw [hL]; exact perm3 h2⟩

set_option maxRecDepth 100000 in
set_option maxHeartbeats 2000000 in
theorem C_store_Trim_own {c : Cx} {L : List Pt} {sb mb ck : Nat} {es : Array MapEntry} {Cs : List Pt} {l : List (Key × CV)} {s : Stamp} (hm : MapIs keyV cvV es ck l) (hC : ChOwn l Cs) (hsz : l.length ≤ 200) : Fn Tryz.prog 139 #[.pointer (some ⟨sb, 0, none⟩), .agg (Stamp_enc s)] c ((sb, .cells #[.map (some mb)] 245 (0, 0)) :: (mb, .map es ck) :: (Cs ++ L)) (fun v L' => v = .int .i64 (trimS l s) ∧ ∃ l' Ls', StOwn sb l' Ls' ∧ TrimR l s l' ∧ L' = Ls' ++ L) := by
  refine Fn.enter Tryz.func139 rfl 32 rfl rfl (fun R hR => ?_)
  refine Cd.seq (fun K1 hK1 => ?_)
  refine Cd.region [0, 1] rfl ?_
  refine Seq.op at0 rfl (Op.new rfl (O.box (v := .agg _) rfl (cs := (Stamp_enc s)) rfl) ?_)
  intro b2 hb2
  refine Seq.rd0 at1 rfl rfl (O.assign (v := .int .i64 _) rfl) ?_
  refine Seq.nil ?_
  refine hK1 ?_
  refine Cd.seq (fun K3 hK3 => ?_)
  refine Cd.region [0] rfl ?_
  refine Seq.rd0 at0 rfl rfl (O.assign (v := .int .i64 _) rfl) ?_
  refine Seq.nil ?_
  refine hK3 ?_
  refine Cd.seq (fun K4 hK4 => ?_)
  refine Cd.seq (fun K5 hK5 => ?_)
  refine Cd.region [0, 1, 2, 3, 4] rfl ?_
  refine Seq.rd0 at0 rfl rfl (O.move (v := .pointer _) rfl) ?_
  refine Seq.rd0 at1 rfl rfl (O.nilP rfl) ?_
  refine Seq.rd0 at2 rfl rfl (O.field fo_245_0 rfl) ?_
  refine Seq.rd1 at3 rfl rfl (O.load kd_243 rfl r1_0) Rd.head.cons ?_
  refine Seq.op at4 rfl (Op.gen rfl (O.range mp_243 hm rfl (Rd.head.cons.cons)) ?_)
  rintro _ _ ⟨r, it, hr0, rfl, hi, rfl⟩
  refine Seq.nil ?_
  refine hK5 ?_
  refine Cd.block ?_
  refine Cd.loop (fun m6 e7 L8 => ∃ rest : List (Key × CV), ∃ it : Obj, ∃ es1 : Array MapEntry, ∃ l1 : List (Key × CV), ∃ Cs1 : List Pt, ∃ n : Int, m6 = rest.length ∧ e7 0 = .pointer (some ⟨sb, 0, none⟩) ∧ e7 3 = .pointer (some ⟨b2, 0, none⟩) ∧ e7 4 = .int .i64 0 ∧ e7 5 = .int .i64 n ∧ e7 12 = .pointer (some ⟨r, 0, none⟩) ∧ L8 = (r, it) :: (b2, .cells (Stamp_enc s) 24 (0, 0)) :: (sb, .cells #[.map (some mb)] 245 (0, 0)) :: (mb, .map es1 ck) :: (Cs1 ++ (L)) ∧ ItIs keyV cvV es1 ck mb rest it ∧ MapIs keyV cvV es1 ck l1 ∧ ChOwn l1 Cs1 ∧ TrimI l s l1 rest n) _ ⟨l, it, es, l, Cs, 0, rfl, rfl, rfl, rfl, rfl, rfl, rfl, hi, hm, hC, TrimI.init hm.keys hsz⟩ ?_
  rintro _ e7 _ ⟨rest, it, es1, l1, Cs1, n, rfl, s9, s10, s11, s12, s13, rfl, hi, hm1, hC1, hT⟩ K14 hK14
  refine Cd.seq (fun K15 hK15 => ?_)
  refine Cd.region [0, 1] rfl ?_
  refine Seq.op at0 rfl (Op.gen rfl (O.next2 kk_key hm1 hi (by exact s13) Rd.head.cons.cons.cons) ?_)
  rintro _ _ (⟨rfl, rfl, rfl⟩ | ⟨a, u, rest', it', hpm, rfl, hi', hdl, hent, rfl⟩)
  · skip
    refine Seq.rd0 at1 rfl rfl (O.ext rfl r1_0) ?_
    refine Seq.nil ?_
    refine hK15 ?_
    refine Cd.seq (fun K16 hK16 => ?_)
    refine Cd.condF rfl ?_
    refine Cd.exit ?_
    refine hK4 ?_
    refine Cd.seq (fun K17 hK17 => ?_)
    refine Cd.region [0, 1] rfl ?_
    refine Seq.rd0 at0 rfl rfl (O.move (v := .int .i64 _) (by exact s12)) ?_
    refine Seq.rd0 at1 rfl rfl (O.assign (v := .int .i64 _) rfl) ?_
    refine Seq.nil ?_
    refine hK17 ?_
    refine Cd.ret ?_
    have hst : StOwn sb l1 ((sb, .cells #[.map (some mb)] 245 (0, 0)) :: (mb, .map es1 ck) :: Cs1) := ⟨⟨mb, es1, ck, Cs1, rfl, hm1, hC1⟩, hT.size⟩
    have hcn := hT.cnt
    exact hR _ _ (Res.one (v := .int .i64 _) rfl rfl) ⟨by rw [← hcn]; congr 1; unfold trimS; simp, l1, _, hst, ⟨fun k => by rw [hT.get k]; rfl, hT.keys⟩, rfl⟩ (.cons _ (.cons _ (.refl _)))
  · skip
    refine Seq.rd0 at1 rfl rfl (O.ext rfl r3_0) ?_
    refine Seq.nil ?_
    refine hK15 ?_
    refine Cd.seq (fun K18 hK18 => ?_)
    refine Cd.condT rfl ?_
    refine Cd.skip ?_
    refine hK18 ?_
    refine Cd.block ?_
    refine Cd.seq (fun K19 hK19 => ?_)
    refine Cd.region [0, 1, 2, 3, 4, 5] rfl ?_
    refine Seq.op at0 rfl (Op.gen rfl (hent _ _ (by exact s13) Rd.head Rd.head.cons.cons.cons) ?_)
    rintro _ _ ⟨rfl, rfl⟩
    have hau : alook l1 a = some u := hT.look (a, u) (hpm.mem_iff.2 (List.mem_cons_self))
    have hch := hC1.ch (c := c) (R := L) hau
    have h50 := trimN_le (s := s) hch.2.1
    have h51 := hch.2.2
    have hnb := hT.bnd
    have hpl := hpm.length_eq
    simp only [List.length_cons] at hpl
    refine Seq.rd0 at1 rfl rfl (O.ext rfl r2_0) ?_
    refine Seq.rd0 at2 rfl rfl (O.ext rfl r2_1) ?_
    refine Seq.op at3 rfl (Op.new rfl (O.alloc zo_45 (cs := (Key_enc Key.zero)) rfl) ?_)
    intro b20 hb20
    refine Seq.op at4 rfl (Op.set0 rfl (O.store kd_45 rfl (v := .agg _) rfl (Key_size _) (Key_room (Key_size _)) (Key_one _) (Key_put _ (Key_size _))) ?_)
    refine Seq.rd0 at5 rfl rfl (O.assign (v := .pointer _) rfl) ?_
    refine Seq.nil ?_
    refine hK19 ?_
    refine Cd.seq (fun K21 hK21 => ?_)
    refine Cd.region [0, 1, 2, 3, 4, 5] rfl ?_
    refine Seq.rd0 at0 rfl rfl (O.move (v := .int .i64 _) (by exact s12)) ?_
    refine Seq.rd0 at1 rfl rfl (O.move (v := .pointer _) rfl) ?_
    refine Seq.rd1 at2 rfl rfl (O.loadA kd_24 (by exact s10) (Nat.le_of_ble_eq_true rfl) (Stamp_all _)) Rd.head.cons.cons ?_
    refine Seq.op at3 rfl (Op.callF rfl hb_204 (C_trimIn (X := [(b20, _), (r, _), (b2, _), (sb, _), (mb, _)]) (R := L) (s := s) hC1 hau) rfl ?_)
    rintro _ _ ⟨rfl, Cs2, hC2, rfl⟩
    have hm2 : MapIs keyV cvV es1 ck (aput l1 a (u.1, u.2.drop (trimN u.2 s))) := hm1.upd hau rfl
    have hak : alook (aput l1 a (u.1, u.2.drop (trimN u.2 s))) a = some (u.1, u.2.drop (trimN u.2 s)) := alook_put_same _ _ _
    refine Seq.rd0 at4 rfl rfl (O.add rfl rfl (by omega) (by omega)) ?_
    refine Seq.rd0 at5 rfl rfl (O.assign (v := .int .i64 _) rfl) ?_
    refine Seq.nil ?_
    refine hK21 ?_
    refine Cd.seq (fun K22 hK22 => ?_)
    refine Cd.region [0, 1, 2] rfl ?_
    refine Seq.rd0 at0 rfl rfl (O.move (v := .pointer _) rfl) ?_
    have hdd : (u.2.drop (trimN u.2 s)).length < 4611686018427387904 := by rw [List.length_drop]; omega
    refine Seq.op at1 rfl (Op.callF rfl hb_205 (C_chain_Len hdd ((hC2.ch (R := L) hak).1.cons.cons.cons.cons.cons)) rfl ?_)
    rintro _ _ ⟨rfl, rfl⟩
    refine Seq.rd0 at2 rfl rfl (O.eqI rfl rfl) ?_
    refine Seq.nil ?_
    refine hK22 ?_
    refine Cd.if (((u.2.drop (trimN u.2 s)).length : Int) = 0) rfl (fun t23 => ?_) (fun t23 => ?_)
    · skip
      refine Cd.draw 6 rfl po ?_
      refine Any.rd0 0 at0 rfl rfl (O.move (v := .pointer _) (by exact s9)) (by kernel_rfl) (by kernel_rfl) (by kernel_rfl) ?_
      refine Any.rd0 1 at1 rfl rfl (O.nilP rfl) (by kernel_rfl) (by kernel_rfl) (by kernel_rfl) ?_
      refine Any.rd0 2 at2 rfl rfl (O.field fo_245_0 rfl) (by kernel_rfl) (by kernel_rfl) (by kernel_rfl) ?_
      refine Any.rd1 3 at3 rfl rfl (O.load kd_243 rfl r1_0) Rd.head.cons.cons.cons (by kernel_rfl) (by kernel_rfl) (by kernel_rfl) ?_
      refine Any.rd1 4 at4 rfl rfl (O.loadA kd_45 rfl (Nat.le_of_ble_eq_true rfl) (Key_all _)) Rd.head (by kernel_rfl) (by kernel_rfl) (by kernel_rfl) ?_
      refine Any.one 5 at5 rfl (by kernel_rfl) ⟨⟨trivial, Rd.head.cons.cons.cons⟩, Rd.head⟩ ?_
      refine Op.gen rfl (O.mapDel2 (encV := cvV) (a := a) mp_243 kk_key hm2 (List.mem_map.2 ⟨_, alook_mem hak, rfl⟩) rfl (by exact rfl) (A := [(b20, _), (r, _), (b2, _), (sb, _)]) rfl) ?_
      rintro _ _ ⟨rfl, es3, hm3, hda, rfl⟩
      obtain ⟨G3, Cs3, hp3, hC3⟩ := hC2.del hak
      refine Ent.perm ?_ (perm3 (X := [(b20, _), (r, _), (b2, _), (sb, _), (mb, _)]) (R := L) hp3.symm).symm
      refine Ent.sub ?_ (sub_app (G := G3) (.refl _))
      refine Any.toK ?_
      refine Any.done (by kernel_rfl) ⟨⟨trivial, Rd.head.cons.cons.cons⟩, Rd.head⟩ ?_
      refine Ent.drop ?_
      have hka := aput_keep (u := (u.1, u.2.drop (trimN u.2 s))) hau
      have hd0 : u.2.drop (trimN u.2 s) = [] := List.eq_nil_of_length_eq_zero (by omega)
      have hnn := hm2.keys
      exact hK14 _ (step_dec hpm) ⟨rest', it', es3, (adel (aput l1 a (u.1, u.2.drop (trimN u.2 s))) a), Cs3, (n + (trimN u.2 s : Int)), rfl, (by exact s9), (by exact s10), (by exact s11), rfl, (by exact s13), rfl, hdl _ hda, hm3, hC3, hT.step hpm (fun k hk => (alook_del_ne hk _).trans (alook_put_ne _ hk _)) (by unfold getS; rw [alook_del_same hnn]; exact hd0.symm) (fun k hk => by rw [← hka.1]; exact ((adel_keys hnn k).1 hk).2) (by rw [← hka.2.1]; exact (adel_sub _ _).length_le) (by omega)⟩
    · skip
      refine Cd.skip ?_
      refine Ent.drop ?_
      have hka := aput_keep (u := (u.1, u.2.drop (trimN u.2 s))) hau
      exact hK14 _ (step_dec hpm) ⟨rest', it', es1, (aput l1 a (u.1, u.2.drop (trimN u.2 s))), Cs2, (n + (trimN u.2 s : Int)), rfl, (by exact s9), (by exact s10), (by exact s11), rfl, (by exact s13), rfl, hi', hm2, hC2, hT.step hpm (fun k hk => alook_put_ne _ hk _) (getS_some hak) (fun k hk => by rw [← hka.1]; exact hk) (Nat.le_of_eq hka.2.1) (by omega)⟩

theorem C_store_Trim {c : Cx} {R Ls : List Pt} {sb : Nat} {l : List (Key × CV)} {s : Stamp} (hS : StOwn sb l Ls) :
    Fn Tryz.prog 139 #[.pointer (some ⟨sb, 0, none⟩), .agg (Stamp_enc s)] c (Ls ++ R) (fun v L' => v = .int .i64 (trimS l s) ∧ ∃ l' Ls', StOwn sb l' Ls' ∧ TrimR l s l' ∧ L' = Ls' ++ R) := by
  obtain ⟨⟨mb, es, ck, Cs, rfl, h1, h2⟩, h3⟩ := hS
  exact C_store_Trim_own (L := R) h1 h2 h3

end Go.X

/- The engine, part 18: slices.Sort of int64. -/
namespace Go.X
open Go.Sort Go.Proofs Go.Shelf Go.RowKit
section
variable {P : Program} {c : Cx} {L : List Pt} {ρ : Ren}
theorem rows_int : ∀ xs : List Int, rows intE xs = (xs.map (Value.int .i64)).toArray
  | [] => rfl
  | x :: xs => by
    have h := rows_append (enc := intE) (l := [x]) (m := xs)
    rw [List.singleton_append] at h
    rw [h, rows_one, rows_int xs]
    simp [intE]
theorem putCells_map {α : Type} [Inhabited α] (f : α → Value) (d : Array α) : putCells f 0 d = putCells id 0 (d.map f) := by
  funext c
  unfold putCells
  apply Array.ext_getElem?
  intro i
  simp only [Array.getElem?_mapIdx, Array.size_map, Nat.zero_le, true_and, Nat.zero_add, Nat.sub_zero, id]
  congr 1
  funext x
  split
  · rename_i h
    rw [getElem!_pos d i h, getElem!_pos (d.map f) i (by simpa using h), Array.getElem_map]
  · rfl
theorem Fn.sortInt (Ly : SlLaysM.n5 P ρ) {b cap : Nat} {xs : List Int} {sp : Array Value} {el : TypeId} {R : List Pt} (hsz : xs.length < 4611686018427387904) :
    Fn P (ρ.f 5) #[.slice (some ⟨b, 0, none⟩) xs.length cap] c ((b, .cells (rows intE xs ++ sp) el (0, 0)) :: R)
      (fun v L' => v = .tuple #[] ∧ L' = (b, .cells (rows intE (xs.mergeSort fun x y => decide (x ≤ y)) ++ sp) el (0, 0)) :: R) := by
  intro w hw
  have hb := hw.look _ (List.mem_cons_self)
  have hH : Holds (Value.int .i64) w b 0 xs.toArray := by
    intro j hj
    simp only [List.size_toArray] at hj
    simp only [Nat.zero_add]
    have hz : (rows intE xs).size = xs.length := by rw [rows_int]; simp
    refine ⟨?_, by simp [World.frozen?, hb]⟩
    rw [cell_get hb, Array.getElem?_append_left (by omega), rows_int, getElem!_pos _ j (by simpa using hj)]
    simp [hj]
  refine Calls.mono (AnyM.slices_Sort_int Ly b 0 cap xs w hH (lt_of_get hb) hsz) ?_
  rintro e w' ⟨rfl, n, os, rfl⟩
  refine ⟨_, rfl, _, ⟨rfl, rfl⟩, ?_⟩
  have h1 : St c ((b, .cells (rows intE xs ++ sp) el (0, 0)) :: R) (Sort.ahead w n) := hw.drew _ (Nat.le_add_right _ _)
  have h2 := h1.look _ (List.mem_cons_self)
  unfold putRow
  rw [putCells_map]
  have h3 : (xs.mergeSort fun x y => decide (x ≤ y)).toArray.map (Value.int .i64) = rows intE (xs.mergeSort fun x y => decide (x ≤ y)) := by rw [rows_int]; simp
  rw [h3, mapBlock_blk (F0 := rows intE xs) (sp := sp) h2 (by rw [rows_int, rows_int]; simp)]
  exact St.grow (St.set (A := []) h1) os
theorem Fn.sortIntOwn (Ly : SlLaysM.n5 P ρ) {xs : List Int} {v : Value} {Ls R : List Pt} {el : Nat} (ho : OwnSl el 1 (rows intE xs) xs.length v Ls) (hsz : xs.length < 4611686018427387904) :
    Fn P (ρ.f 5) #[v] c (Ls ++ R) (fun v' L' => v' = .tuple #[] ∧ ∃ Ls', OwnSl el 1 (rows intE (xs.mergeSort fun x y => decide (x ≤ y))) xs.length v Ls' ∧ L' = Ls' ++ R) := by
  rcases ho with ⟨h0, h9, rfl, rfl⟩ | ⟨b, cap, sp, rfl, h1, h2, h3, rfl⟩
  · obtain rfl : xs = [] := List.length_eq_zero_iff.1 h0
    intro w hw
    refine Calls.mono (AnyM.slices_Sort_int_none Ly none 0 w) ?_
    rintro e w' ⟨rfl, rfl⟩
    exact ⟨_, rfl, _, ⟨rfl, [], .inl ⟨rfl, by simpa using h9, rfl, rfl⟩, rfl⟩, hw⟩
  · refine Fn.mono (Fn.sortInt Ly hsz) ?_
    rintro v' L' ⟨rfl, rfl⟩
    exact ⟨rfl, [_], .inr ⟨b, cap, sp, rfl, h1, h2, by rw [rows_int]; simp, rfl⟩, rfl⟩
end
end Go.X
