/- Part 8 of the proofs over this program: what its functions compute. -/
import Derived.Test.YthifdialndcemaaGreatProg
import Derived.Test.YthifdialndcemaaGreatS7
set_option linter.unusedVariables false
set_option linter.unusedSimpArgs false

namespace Go.X
open Go.Proofs
theorem hb_114 : hasBody Tryz.prog 114 = true := by kernel_rfl
theorem hb_139 : hasBody Tryz.prog 139 = true := by kernel_rfl
theorem hb_140 : hasBody Tryz.prog 140 = true := by kernel_rfl
theorem hb_189 : hasBody Tryz.prog 189 = true := by kernel_rfl
theorem hb_190 : hasBody Tryz.prog 190 = true := by kernel_rfl
theorem hb_233 : hasBody Tryz.prog 233 = true := by kernel_rfl
set_option maxRecDepth 100000 in
set_option maxHeartbeats 2000000 in
theorem C_keysTx_fn {c : Cx} {L : List Pt} {V : Type} {encV : V → Value} {Rt Lo : List Pt} {bb bm l ck : Nat} {es : Array MapEntry} {lst : List (Int × V)} {I : List Int → List Pt → Prop} (hm : MapIs (fun x : Int => (.int .i64 x)) encV es ck lst) (hb : Rd c Rt bb (.cells #[.map (some bm)] 201 (0, 0))) (hr : Rd c Rt bm (.map es ck)) (hY : ∀ pre x Lo R', pre.length < lst.length → I pre Lo → YStep Tryz.prog c l ((fun x : Int => (.int .i64 x)) x) (Lo ++ R') (fun L' => ∃ Lo', I (pre ++ [x]) Lo' ∧ L' = Lo' ++ R')) (h0 : I [] Lo) : Fn Tryz.prog 206 #[.func (.yield l) #[] #[], .pointer (some ⟨bb, 0, none⟩)] c (Lo ++ Rt) (fun v L' => ∃ xs Lo', xs.Perm (lst.map Prod.fst) ∧ I xs Lo' ∧ L' = Lo' ++ Rt) := by
  refine Fn.enter Tryz.func206 rfl 14 rfl rfl (fun R hR => ?_)
  refine Cd.seq (fun K1 hK1 => ?_)
  refine Cd.region [0, 1] rfl ?_
  refine Seq.rd1 at0 rfl rfl (O.load kd_201 rfl r1_0) (hb.sub (List.sublist_append_right _ _)) ?_
  refine Seq.op at1 rfl (Op.gen rfl (O.range mp_201 hm rfl (hr.sub (List.sublist_append_right _ _))) ?_)
  rintro _ _ ⟨r, it, hr0, rfl, hi, rfl⟩
  refine Seq.nil ?_
  refine hK1 ?_
  refine Cd.block ?_
  refine Cd.loop (fun m2 e3 L4 => ∃ pre : List Int, ∃ rest : List (Int × V), ∃ Lo1 : List Pt, ∃ it : Obj, m2 = rest.length ∧ e3 0 = .func (.yield l) #[] #[] ∧ e3 5 = .pointer (some ⟨r, 0, none⟩) ∧ L4 = (r, it) :: (Lo1 ++ Rt) ∧ I pre Lo1 ∧ ItIs (fun x : Int => (.int .i64 x)) encV es ck bm rest it ∧ (pre ++ rest.map Prod.fst).Perm (lst.map Prod.fst)) _ ⟨[], lst, Lo, it, rfl, rfl, rfl, rfl, h0, hi, .refl _⟩ ?_
  rintro _ e3 _ ⟨pre, rest, Lo1, it, rfl, s5, s6, rfl, hI, hi, hp⟩ K7 hK7
  refine Cd.seq (fun K8 hK8 => ?_)
  refine Cd.region [0, 1] rfl ?_
  refine Seq.op at0 rfl (Op.gen rfl (O.next hm hi (by exact s6) (Rd.cons (hr.sub (List.sublist_append_right _ _)))) ?_)
  rintro _ _ (⟨rfl, rfl, rfl⟩ | ⟨a, u, rest', it', hpm, rfl, hi', hent, rfl⟩)
  · skip
    refine Seq.rd0 at1 rfl rfl (O.ext rfl r1_0) ?_
    refine Seq.nil ?_
    refine hK8 ?_
    refine Cd.seq (fun K9 hK9 => ?_)
    refine Cd.condF rfl ?_
    refine Cd.exit ?_
    exact hR _ _ (Res.zero rfl) ⟨pre, Lo1, by simpa using hp, hI, rfl⟩ (.cons _ (.refl _))
  · skip
    refine Seq.rd0 at1 rfl rfl (O.ext rfl r3_0) ?_
    refine Seq.nil ?_
    refine hK8 ?_
    refine Cd.seq (fun K10 hK10 => ?_)
    refine Cd.condT rfl ?_
    refine Cd.skip ?_
    refine hK10 ?_
    refine Cd.block ?_
    refine Cd.seq (fun K11 hK11 => ?_)
    refine Cd.region [0, 1, 2] rfl ?_
    refine Seq.op at0 rfl (Op.gen rfl (hent _ _ (by exact s6) Rd.head (Rd.cons (hr.sub (List.sublist_append_right _ _)))) ?_)
    rintro _ _ ⟨rfl, rfl⟩
    refine Seq.rd0 at1 rfl rfl (O.ext rfl r2_0) ?_
    refine Seq.rd0 at2 rfl rfl (O.assign (v := .int .i64 _) rfl) ?_
    refine Seq.nil ?_
    refine hK11 ?_
    refine Cd.seq (fun K12 hK12 => ?_)
    refine Cd.region [0, 1, 2, 3] rfl ?_
    refine Seq.rd0 at0 rfl rfl (O.move (v := (.func (.yield l) #[] #[])) (by exact s5)) ?_
    refine Seq.rd0 at1 rfl rfl (O.move (v := .int .i64 _) rfl) ?_
    refine Seq.opY at2 rfl (Ent.perm (Op.yield rfl rfl rfl (hY pre a Lo1 _ (step_lt hp hpm) hI) ?_) (bring (Ls := Lo1) (pre := [(r, _)]) (R := Rt)))
    rintro _ ⟨Lo2, hI2, rfl⟩
    refine Ent.perm ?_ (bring (Ls := Lo2) (pre := [(r, _)]) (R := Rt)).symm
    refine Seq.rd0 at3 rfl rfl (O.not rfl) ?_
    refine Seq.nil ?_
    refine hK12 ?_
    refine Cd.condF rfl ?_
    refine Cd.skip ?_
    exact hK7 _ (step_dec hpm) ⟨pre ++ [a], rest', Lo2, it', rfl, (by exact s5), (by exact s6), rfl, hI2, hi', perm_step hp hpm⟩

theorem C_keysTx {c : Cx} {V : Type} {encV : V → Value} {Rt : List Pt} {bb bm ck : Nat} {es : Array MapEntry} {lst : List (Int × V)} (hm : MapIs (fun x : Int => (.int .i64 x)) encV es ck lst) (hb : Rd c Rt bb (.cells #[.map (some bm)] 201 (0, 0))) (hr : Rd c Rt bm (.map es ck)) :
    IterOk Tryz.prog c (fun x : Int => (.int .i64 x)) 206 [.pointer (some ⟨bb, 0, none⟩)] lst.length (fun xs => xs.Perm (lst.map Prod.fst)) Rt := fun _ _ _ hY h0 => C_keysTx_fn (L := Rt) hm hb hr hY h0

set_option maxRecDepth 100000 in
set_option maxHeartbeats 2000000 in
theorem C_mapsKeys_tx {c : Cx} {L : List Pt} {mb : Nat} : Fn Tryz.prog 140 #[.map (some mb)] c L (fun v L' => ∃ bb, c.w0.heap.size ≤ bb ∧ v = .func (.func 206) #[] #[.pointer (some ⟨bb, 0, none⟩)] ∧ L' = (bb, .cells #[.map (some mb)] 201 (0, 0)) :: L) := by
  refine Fn.enter Tryz.func140 rfl 4 rfl rfl (fun R hR => ?_)
  refine Cd.seq (fun K1 hK1 => ?_)
  refine Cd.region [0, 1] rfl ?_
  refine Seq.op at0 rfl (Op.new rfl (O.box (v := .map _) rfl rfl) ?_)
  intro b2 hb2
  refine Seq.rd0 at1 rfl rfl (O.assign (v := .nilFunc) rfl) ?_
  refine Seq.nil ?_
  refine hK1 ?_
  refine Cd.seq (fun K3 hK3 => ?_)
  refine Cd.region [0, 1] rfl ?_
  refine Seq.rd0 at0 rfl rfl (O.mkFunc (fs' := #[]) (cs' := #[.pointer (some ⟨b2, 0, none⟩)]) (by kernel_rfl) (by kernel_rfl)) ?_
  refine Seq.rd0 at1 rfl rfl (O.assign (v := .func _ _ _) rfl) ?_
  refine Seq.nil ?_
  refine hK3 ?_
  refine Cd.ret ?_
  exact hR _ _ (Res.one (v := .func _ _ _) rfl rfl) ⟨b2, hb2, rfl, rfl⟩ (.refl _)

theorem MapIs.int {V : Type} {encV : V → Value} {es : Array MapEntry} {ck : Nat} {l : List (I64 × V)} (h : MapIs i64V encV es ck l) : MapIs (fun x : Int => .int .i64 x) encV es ck (l.map fun q => (q.1.1, q.2)) := by
  refine ⟨?_, ?_, h.born, h.clock⟩
  · rw [h.ents, List.map_map]; rfl
  · have h1 := h.keys
    have h2 : (l.map fun q => (q.1.1, q.2)).map Prod.fst = (l.map Prod.fst).map Subtype.val := by simp [Function.comp_def]
    rw [h2]
    exact List.Pairwise.map _ (fun a b hne e => hne (Subtype.ext e)) h1
def OwnI (xs : List Int) (v : Value) (Ls : List Pt) : Prop := OwnSl 2 1 (rows intE xs) xs.length v Ls
theorem C_Sort_ownI {c : Cx} {R Ls : List Pt} {xs : List Int} {v : Value} (ho : OwnI xs v Ls) (hsz : xs.length < 4611686018427387904) :
    Fn Tryz.prog 190 #[v] c (Ls ++ R) (fun v' L' => v' = .tuple #[] ∧ ∃ ys Ls', ys.Perm xs ∧ ys.Pairwise (· ≤ ·) ∧ OwnI ys v Ls' ∧ L' = Ls' ++ R) := by
  refine Fn.mono (Fn.sortIntOwn (ρ := Go.Proofs.Tryz.sortI64_ren) Tryz.sortI64 ho hsz) ?_
  rintro v' L' ⟨rfl, Ls', h1, rfl⟩
  refine ⟨rfl, _, Ls', List.mergeSort_perm xs (fun x y => decide (x ≤ y)), ?_, by unfold OwnI; rw [List.length_mergeSort]; exact h1, rfl⟩
  have h2 := List.pairwise_mergeSort (le := fun x y : Int => decide (x ≤ y)) (fun a b c => by simp; omega) (fun a b => by simp; omega) xs
  exact h2.imp (fun h => by simpa using h)

set_option maxRecDepth 100000 in
set_option maxHeartbeats 2000000 in
theorem C_Collect_int64 {c : Cx} {L : List Pt} {gf : FuncId} {lb : List Value} {N : Nat} {S : List Int → Prop} (hN : N ≤ 1000000000) (hgb : hasBody Tryz.prog gf = true) (hit : IterOk Tryz.prog c (fun x : Int => .int .i64 x) gf lb N S L) (hSN : ∀ xs, S xs → xs.length ≤ N) : Fn Tryz.prog 189 #[.func (.func gf) #[] lb.toArray] c L (fun v L' => ∃ xs Ls, S xs ∧ OwnI xs v Ls ∧ L' = Ls ++ L) := by
  refine Fn.enter Tryz.func189 rfl 5 rfl rfl (fun R hR => ?_)
  refine Cd.seq (fun K1 hK1 => ?_)
  refine Cd.region [0] rfl ?_
  refine Seq.rd0 at0 rfl rfl (O.assign (v := .slice _ _ _) rfl) ?_
  refine Seq.nil ?_
  refine hK1 ?_
  refine Cd.seq (fun K2 hK2 => ?_)
  refine Cd.region [0, 1, 2] rfl ?_
  refine Seq.rd0 at0 rfl rfl (O.move (v := (.func (.func gf) #[] lb.toArray)) rfl) ?_
  refine Seq.op at1 rfl (Op.callF rfl hb_233 (C_AppendSeq_int64 hN hgb hit) rfl ?_)
  rintro v3 _ ⟨xs4, Ls5, hSv3, hov3, rfl⟩
  refine Seq.rd0 at2 rfl rfl (O.assign (v := v3) rfl) ?_
  refine Seq.nil ?_
  refine hK2 ?_
  refine Cd.ret ?_
  exact hR _ _ (Res.one (v := v3) rfl rfl) ⟨xs4, Ls5, hSv3, hov3, rfl⟩ (.refl _)

set_option maxRecDepth 100000 in
set_option maxHeartbeats 2000000 in
theorem C_Sorted_int64 {c : Cx} {L : List Pt} {gf : FuncId} {lb : List Value} {N : Nat} {S : List Int → Prop} (hN : N ≤ 1000000000) (hgb : hasBody Tryz.prog gf = true) (hit : IterOk Tryz.prog c (fun x : Int => .int .i64 x) gf lb N S L) (hSN : ∀ xs, S xs → xs.length ≤ N) : Fn Tryz.prog 114 #[.func (.func gf) #[] lb.toArray] c L (fun v L' => ∃ xs ys Ls, S xs ∧ ys.Perm xs ∧ ys.Pairwise (· ≤ ·) ∧ OwnI ys v Ls ∧ L' = Ls ++ L) := by
  refine Fn.enter Tryz.func114 rfl 9 rfl rfl (fun R hR => ?_)
  refine Cd.seq (fun K1 hK1 => ?_)
  refine Cd.region [0] rfl ?_
  refine Seq.rd0 at0 rfl rfl (O.assign (v := .slice _ _ _) rfl) ?_
  refine Seq.nil ?_
  refine hK1 ?_
  refine Cd.seq (fun K2 hK2 => ?_)
  refine Cd.region [0, 1, 2] rfl ?_
  refine Seq.rd0 at0 rfl rfl (O.move (v := (.func (.func gf) #[] lb.toArray)) rfl) ?_
  refine Seq.op at1 rfl (Op.callF rfl hb_189 (C_Collect_int64 hN hgb hit hSN) rfl ?_)
  rintro v3 _ ⟨xs4, Ls5, hSv3, hov3, rfl⟩
  refine Seq.rd0 at2 rfl rfl (O.assign (v := v3) rfl) ?_
  refine Seq.nil ?_
  refine hK2 ?_
  refine Cd.seq (fun K6 hK6 => ?_)
  refine Cd.region [0, 1] rfl ?_
  refine Seq.rd0 at0 rfl rfl (O.move (v := v3) rfl) ?_
  refine Seq.op at1 rfl (Op.callF rfl hb_190 (C_Sort_ownI hov3 (by have := hSN _ hSv3; omega)) rfl ?_)
  rintro _ _ ⟨rfl, ys7, Ls8, hpys7, hsys7, hoys7, rfl⟩
  refine Seq.nil ?_
  refine hK6 ?_
  refine Cd.seq (fun K9 hK9 => ?_)
  refine Cd.region [0, 1] rfl ?_
  refine Seq.rd0 at0 rfl rfl (O.move (v := v3) rfl) ?_
  refine Seq.rd0 at1 rfl rfl (O.assign (v := v3) rfl) ?_
  refine Seq.nil ?_
  refine hK9 ?_
  refine Cd.ret ?_
  exact hR _ _ (Res.one (v := v3) rfl rfl) ⟨_, ys7, Ls8, hSv3, hpys7, hsys7, hoys7, rfl⟩ (.refl _)

set_option maxRecDepth 100000 in
set_option maxHeartbeats 2000000 in
theorem C_solo_Open {c : Cx} {L : List Pt} {p sb lm ck : Nat} {es : Array MapEntry} {xl : List (I64 × TX)} {bg la : Int} (hp : Rd c L p (.cells #[.pointer (some ⟨sb, 0, none⟩), .map (some lm), .int .i64 bg, .int .i64 la] 203 (0, 0))) (hlm : Rd c L lm (.map es ck)) (hMx : MapIs i64V txV es ck xl) (hlen : xl.length ≤ 1000000000) : Fn Tryz.prog 62 #[.pointer (some ⟨p, 0, none⟩)] c L (fun v L' => ∃ ys Ls, ys.Perm (xl.map fun q => q.1.1) ∧ ys.Pairwise (· ≤ ·) ∧ OwnI ys v Ls ∧ L' = Ls ++ L) := by
  have hlen2 : (xl.map fun q => (q.1.1, q.2)).length ≤ 1000000000 := by rw [List.length_map]; exact hlen
  refine Fn.enter Tryz.func62 rfl 9 rfl rfl (fun R hR => ?_)
  refine Cd.seq (fun K1 hK1 => ?_)
  refine Cd.region [0] rfl ?_
  refine Seq.rd0 at0 rfl rfl (O.assign (v := .slice _ _ _) rfl) ?_
  refine Seq.nil ?_
  refine hK1 ?_
  refine Cd.seq (fun K2 hK2 => ?_)
  refine Cd.region [0, 1, 2, 3, 4, 5, 6] rfl ?_
  refine Seq.rd0 at0 rfl rfl (O.move (v := .pointer _) rfl) ?_
  refine Seq.rd0 at1 rfl rfl (O.nilP rfl) ?_
  refine Seq.rd0 at2 rfl rfl (O.field fo_203_1 rfl) ?_
  refine Seq.rd1 at3 rfl rfl (O.load kd_201 rfl r4_1) hp ?_
  refine Seq.op at4 rfl (Op.callF rfl hb_140 C_mapsKeys_tx rfl ?_)
  rintro _ _ ⟨bb3, hbb3, rfl, rfl⟩
  refine Seq.op at5 rfl (Op.callF rfl hb_114 (C_Sorted_int64 (gf := 206) (lb := [.pointer (some ⟨bb3, 0, none⟩)]) hlen2 (by kernel_rfl) (C_keysTx hMx.int Rd.head hlm.cons) (fun _ h => Nat.le_of_eq (h.length_eq.trans (List.length_map _)))) rfl ?_)
  rintro v4 _ ⟨xs5, ys6, Ls7, hSxs5, hpys6, hoys6, hwys6, rfl⟩
  refine Ent.perm ?_ (bring (Ls := Ls7) (pre := [(bb3, _)]) (R := L)).symm
  refine Seq.rd0 at6 rfl rfl (O.assign (v := v4) rfl) ?_
  refine Seq.nil ?_
  refine hK2 ?_
  refine Cd.ret ?_
  exact hR _ _ (Res.one (v := v4) rfl rfl) ⟨ys6, Ls7, by have h9 := hpys6.trans hSxs5; rw [List.map_map] at h9; exact h9, hoys6, hwys6, rfl⟩ (.cons _ (.refl _))

theorem OwnL.rd {c : Cx} {R : List Pt} {k : I64} {q : TX} : ∀ {xl : List (I64 × TX)} {Cs : List Pt}, OwnL OneT xl Cs → alook xl k = some q →
    ∃ mb es ck, Rd c (Cs ++ R) q.1 (.cells #[.int .i64 q.2.1.t, .int .u8 q.2.1.n, .map (some mb)] 208 (0, 0)) ∧ Rd c (Cs ++ R) mb (.map es ck) ∧ MapIs keyV wV es ck q.2.2 ∧ q.2.2.length ≤ 16
  | [], _, _, h => by simp [alook] at h
  | (y, u) :: l, Cs, hC, h => by
    obtain ⟨G, C1, rfl, hO, hC1⟩ := hC
    unfold alook at h
    split at h
    · obtain rfl := Option.some.inj h
      obtain ⟨mb, es, ck, rfl, h1, h2⟩ := hO
      exact ⟨mb, es, ck, .head, Rd.head.cons, h1, h2⟩
    · obtain ⟨mb, es, ck, h1, h2, h3, h4⟩ := OwnL.rd (c := c) (R := R) hC1 h
      exact ⟨mb, es, ck, by rw [List.append_assoc]; exact h1.app, by rw [List.append_assoc]; exact h2.app, h3, h4⟩
/-- the least of the snapshots, and the last time -/
structure LeastS (xl : List (I64 × TX)) (la : Int) (s : Stamp) : Prop where
  is : s = ⟨la, 0⟩ ∨ ∃ q ∈ xl, s = q.2.2.1
  la : ¬ (⟨la, 0⟩ : Stamp).cmp s < 0
  le : ∀ q ∈ xl, ¬ q.2.2.1.cmp s < 0
structure LeastI (xl pre : List (I64 × TX)) (la : Int) (s : Stamp) : Prop where
  is : s = ⟨la, 0⟩ ∨ ∃ q ∈ xl, s = q.2.2.1
  la : ¬ (⟨la, 0⟩ : Stamp).cmp s < 0
  le : ∀ q ∈ pre, ¬ q.2.2.1.cmp s < 0
theorem LeastI.nil {xl : List (I64 × TX)} {la : Int} : LeastI xl [] la ⟨la, 0⟩ := ⟨.inl rfl, by rw [cmp_neg]; exact Stamp.lt_irrefl _, by simp⟩
theorem LeastI.keep {xl pre : List (I64 × TX)} {la : Int} {s : Stamp} {q : I64 × TX} (h : LeastI xl pre la s) (hq : ¬ q.2.2.1.cmp s < 0) : LeastI xl (pre ++ [q]) la s :=
  ⟨h.is, h.la, fun x hx => by rcases List.mem_append.1 hx with hx | hx; exact h.le x hx; rw [List.mem_singleton.1 hx]; exact hq⟩
theorem LeastI.less {xl pre : List (I64 × TX)} {la : Int} {s : Stamp} {q : I64 × TX} (h : LeastI xl pre la s) (hm : q ∈ xl) (hq : q.2.2.1.cmp s < 0) : LeastI xl (pre ++ [q]) la q.2.2.1 := by
  have hlt := (cmp_neg _ _).1 hq
  refine ⟨.inr ⟨q, hm, rfl⟩, fun h1 => h.la ((cmp_neg _ _).2 (Stamp.lt_trans ((cmp_neg _ _).1 h1) hlt)), fun x hx => ?_⟩
  rcases List.mem_append.1 hx with hx | hx
  · exact fun h1 => h.le x hx ((cmp_neg _ _).2 (Stamp.lt_trans ((cmp_neg _ _).1 h1) hlt))
  · rw [List.mem_singleton.1 hx, cmp_neg]; exact Stamp.lt_irrefl _

set_option maxRecDepth 100000 in
set_option maxHeartbeats 2000000 in
theorem C_solo_Trim {c : Cx} {L : List Pt} {p sb lm ck : Nat} {es : Array MapEntry} {L1 L2 : List Pt} {l : List (Key × CV)} {xl : List (I64 × TX)} {bg la : Int} (hSo : StOwn sb l L1) (hMx : MapIs i64V txV es ck xl) (hOx : OwnL OneT xl L2) : Fn Tryz.prog 60 #[.pointer (some ⟨p, 0, none⟩)] c ((p, .cells #[.pointer (some ⟨sb, 0, none⟩), .map (some lm), .int .i64 bg, .int .i64 la] 203 (0, 0)) :: (lm, .map es ck) :: (L1 ++ (L2 ++ L))) (fun v L' => ∃ s0 l' Ls', LeastS xl la s0 ∧ v = .int .i64 (trimS l s0) ∧ StOwn sb l' Ls' ∧ TrimR l s0 l' ∧ L' = (p, .cells #[.pointer (some ⟨sb, 0, none⟩), .map (some lm), .int .i64 bg, .int .i64 la] 203 (0, 0)) :: (lm, .map es ck) :: (Ls' ++ (L2 ++ L))) := by
  refine Fn.enter Tryz.func60 rfl 37 rfl rfl (fun R hR => ?_)
  refine Cd.seq (fun K1 hK1 => ?_)
  refine Cd.region [0] rfl ?_
  refine Seq.rd0 at0 rfl rfl (O.assign (v := .int .i64 _) rfl) ?_
  refine Seq.nil ?_
  refine hK1 ?_
  refine Cd.seq (fun K2 hK2 => ?_)
  refine Cd.region [0, 1, 2, 3, 4, 5, 6] rfl ?_
  refine Seq.rd0 at0 rfl rfl (O.move (v := .pointer _) rfl) ?_
  refine Seq.rd0 at1 rfl rfl (O.nilP rfl) ?_
  refine Seq.rd0 at2 rfl rfl (O.field fo_203_3 rfl) ?_
  refine Seq.rd1 at3 rfl rfl (O.load kd_2 rfl r4_3) Rd.head ?_
  refine Seq.rd0 at4 rfl rfl (O.build rfl (cs := (Stamp_enc (⟨la, 0⟩ : Stamp))) (by kernel_rfl)) ?_
  refine Seq.op at5 rfl (Op.new rfl (O.alloc zo_24 (cs := (Stamp_enc Stamp.zero)) rfl) ?_)
  intro b3 hb3
  refine Seq.op at6 rfl (Op.set0 rfl (O.store kd_24 rfl (v := .agg _) rfl (Stamp_size _) (Stamp_room (Stamp_size _)) (Stamp_one _) (Stamp_put _ (Stamp_size _))) ?_)
  refine Seq.nil ?_
  refine hK2 ?_
  refine Cd.seq (fun K4 hK4 => ?_)
  refine Cd.seq (fun K5 hK5 => ?_)
  refine Cd.region [0, 1, 2, 3, 4] rfl ?_
  refine Seq.rd0 at0 rfl rfl (O.move (v := .pointer _) rfl) ?_
  refine Seq.rd0 at1 rfl rfl (O.nilP rfl) ?_
  refine Seq.rd0 at2 rfl rfl (O.field fo_203_1 rfl) ?_
  refine Seq.rd1 at3 rfl rfl (O.load kd_201 rfl r4_1) Rd.head.cons ?_
  refine Seq.op at4 rfl (Op.gen rfl (O.range mp_201 hMx rfl (Rd.head.cons.cons)) ?_)
  rintro _ _ ⟨r, it, hr0, rfl, hi, rfl⟩
  refine Seq.nil ?_
  refine hK5 ?_
  refine Cd.block ?_
  refine Cd.loop (fun m6 e7 L8 => ∃ pre : List (I64 × TX), ∃ rest : List (I64 × TX), ∃ it : Obj, ∃ s0 : Stamp, m6 = rest.length ∧ e7 0 = .pointer (some ⟨p, 0, none⟩) ∧ e7 2 = .int .i64 0 ∧ e7 3 = .pointer (some ⟨b3, 0, none⟩) ∧ e7 15 = .pointer (some ⟨r, 0, none⟩) ∧ L8 = (r, it) :: (b3, .cells (Stamp_enc s0) 24 (0, 0)) :: (p, .cells #[.pointer (some ⟨sb, 0, none⟩), .map (some lm), .int .i64 bg, .int .i64 la] 203 (0, 0)) :: (lm, .map es ck) :: (L1 ++ ((L2 ++ (L)))) ∧ ItIs i64V txV es ck lm rest it ∧ (pre ++ rest).Perm xl ∧ LeastI xl pre la s0) _ ⟨[], xl, it, ⟨la, 0⟩, rfl, rfl, rfl, rfl, rfl, rfl, hi, by exact .refl _, LeastI.nil⟩ ?_
  rintro _ e7 _ ⟨pre, rest, it, s0, rfl, s9, s10, s11, s12, rfl, hi, hp, hz⟩ K13 hK13
  refine Cd.seq (fun K14 hK14 => ?_)
  refine Cd.region [0, 1] rfl ?_
  refine Seq.op at0 rfl (Op.gen rfl (O.next hMx hi (by exact s12) Rd.head.cons.cons.cons) ?_)
  rintro _ _ (⟨rfl, rfl, rfl⟩ | ⟨a, u, rest', it', hpm, rfl, hi', hent, rfl⟩)
  · skip
    refine Seq.rd0 at1 rfl rfl (O.ext rfl r1_0) ?_
    refine Seq.nil ?_
    refine hK14 ?_
    refine Cd.seq (fun K15 hK15 => ?_)
    refine Cd.condF rfl ?_
    refine Cd.exit ?_
    refine hK4 ?_
    refine Cd.seq (fun K16 hK16 => ?_)
    refine Cd.draw 7 rfl po ?_
    refine Any.rd0 0 at0 rfl rfl (O.move (v := .pointer _) (by exact s9)) (by kernel_rfl) (by kernel_rfl) (by kernel_rfl) ?_
    refine Any.rd0 1 at1 rfl rfl (O.nilP rfl) (by kernel_rfl) (by kernel_rfl) (by kernel_rfl) ?_
    refine Any.rd0 2 at2 rfl rfl (O.field fo_203_0 rfl) (by kernel_rfl) (by kernel_rfl) (by kernel_rfl) ?_
    refine Any.rd1 3 at3 rfl rfl (O.load kd_137 rfl r4_0) Rd.head.cons.cons (by kernel_rfl) (by kernel_rfl) (by kernel_rfl) ?_
    refine Any.rd1 4 at4 rfl rfl (O.loadA kd_24 (by exact s11) (Nat.le_of_ble_eq_true rfl) (Stamp_all _)) Rd.head.cons (by kernel_rfl) (by kernel_rfl) (by kernel_rfl) ?_
    refine Any.one 5 at5 rfl (by kernel_rfl) ⟨⟨trivial, Rd.head.cons.cons⟩, Rd.head.cons⟩ ?_
    refine Op.callF rfl hb_139 (Fn.perm (C_store_Trim (R := ((r, _) :: (b3, _) :: (p, _) :: (lm, _) :: []) ++ (L2 ++ (L))) (s := s0) hSo) (bring (pre := ((r, _) :: (b3, _) :: (p, _) :: (lm, _) :: [])) (Ls := L1) (R := (L2 ++ (L))))) rfl ?_
    rintro _ _ ⟨rfl, l3, L3, hS3, hT3, rfl⟩
    refine Ent.perm ?_ (bring (Ls := L3) (pre := ((r, _) :: (b3, _) :: (p, _) :: (lm, _) :: [])) (R := (L2 ++ (L)))).symm
    refine Any.toK ?_
    refine Any.rd0 6 at6 rfl rfl (O.assign (v := .int .i64 _) rfl) (by kernel_rfl) (by kernel_rfl) (by kernel_rfl) ?_
    refine Any.done (by kernel_rfl) ⟨⟨trivial, Rd.head.cons.cons⟩, Rd.head.cons⟩ ?_
    refine hK16 ?_
    refine Cd.ret ?_
    have hpx : pre.Perm xl := by simpa using hp
    exact hR _ _ (Res.one (v := .int .i64 _) rfl rfl) ⟨s0, l3, L3, ⟨hz.is, hz.la, fun q hq => hz.le q (hpx.mem_iff.2 hq)⟩, rfl, hS3, hT3, rfl⟩ (.cons _ (.cons _ (.refl _)))
  · skip
    refine Seq.rd0 at1 rfl rfl (O.ext rfl r3_0) ?_
    refine Seq.nil ?_
    refine hK14 ?_
    refine Cd.seq (fun K17 hK17 => ?_)
    refine Cd.condT rfl ?_
    refine Cd.skip ?_
    refine hK17 ?_
    refine Cd.block ?_
    refine Cd.seq (fun K18 hK18 => ?_)
    refine Cd.region [0, 1, 2] rfl ?_
    refine Seq.op at0 rfl (Op.gen rfl (hent _ _ (by exact s12) Rd.head Rd.head.cons.cons.cons) ?_)
    rintro _ _ ⟨rfl, rfl⟩
    have hqm := permQ hp hpm
    obtain ⟨mbx, esx, ckx, hxr, _, _, _⟩ := hOx.rd (c := c) (R := L) (alook_of_mem hMx.keys hqm)
    refine Seq.rd0 at1 rfl rfl (O.ext rfl r2_1) ?_
    refine Seq.rd0 at2 rfl rfl (O.assign (v := .pointer _) rfl) ?_
    refine Seq.nil ?_
    refine hK18 ?_
    refine Cd.seq (fun K19 hK19 => ?_)
    refine Cd.draw 7 rfl po ?_
    refine Any.rd0 0 at0 rfl rfl (O.move (v := .pointer _) rfl) (by kernel_rfl) (by kernel_rfl) (by kernel_rfl) ?_
    refine Any.rd0 1 at1 rfl rfl (O.nilP rfl) (by kernel_rfl) (by kernel_rfl) (by kernel_rfl) ?_
    refine Any.rd0 2 at2 rfl rfl (O.field fo_208_0 rfl) (by kernel_rfl) (by kernel_rfl) (by kernel_rfl) ?_
    refine Any.rd1 3 at3 rfl rfl (O.loadA kd_24 rfl (Nat.le_of_ble_eq_true rfl) rfl) hxr.app.cons.cons.cons.cons (by kernel_rfl) (by kernel_rfl) (by kernel_rfl) ?_
    refine Any.rd1 4 at4 rfl rfl (O.loadA kd_24 (by exact s11) (Nat.le_of_ble_eq_true rfl) (Stamp_all _)) Rd.head.cons (by kernel_rfl) (by kernel_rfl) (by kernel_rfl) ?_
    refine Any.one 5 at5 rfl (by kernel_rfl) ⟨⟨trivial, hxr.app.cons.cons.cons.cons⟩, Rd.head.cons⟩ ?_
    refine Op.callF rfl hb_132 C_stamp_Cmp rfl ?_
    rintro _ _ ⟨rfl, rfl⟩
    refine Any.toK ?_
    refine Any.rd0 6 at6 rfl rfl (O.lss rfl rfl) (by kernel_rfl) (by kernel_rfl) (by kernel_rfl) ?_
    refine Any.done (by kernel_rfl) ⟨⟨trivial, hxr.app.cons.cons.cons.cons⟩, Rd.head.cons⟩ ?_
    refine hK19 ?_
    refine Cd.if (((u.2.1).cmp s0) < 0) rfl (fun t20 => ?_) (fun t20 => ?_)
    · skip
      refine Cd.region [0, 1, 2, 3, 4] rfl ?_
      refine Seq.rd0 at0 rfl rfl (O.move (v := .pointer _) rfl) ?_
      refine Seq.rd0 at1 rfl rfl (O.nilP rfl) ?_
      refine Seq.rd0 at2 rfl rfl (O.field fo_208_0 rfl) ?_
      refine Seq.rd1 at3 rfl rfl (O.loadA kd_24 rfl (Nat.le_of_ble_eq_true rfl) rfl) hxr.app.cons.cons.cons.cons ?_
      refine Seq.op at4 rfl (Op.set1 rfl (O.store kd_24 (by exact s11) (v := .agg _) rfl (Stamp_size _) (Stamp_room (Stamp_size _)) (Stamp_one _) (Stamp_put _ (Stamp_size _))) ?_)
      refine Seq.nil ?_
      exact hK13 _ (step_dec hpm) ⟨pre ++ [(a, u)], rest', it', u.2.1, rfl, (by exact s9), (by exact s10), (by exact s11), (by exact s12), rfl, hi', permM hp hpm, hz.less hqm (by assumption)⟩
    · skip
      refine Cd.skip ?_
      exact hK13 _ (step_dec hpm) ⟨pre ++ [(a, u)], rest', it', s0, rfl, (by exact s9), (by exact s10), (by exact s11), (by exact s12), rfl, hi', permM hp hpm, hz.keep (by assumption)⟩

end Go.X

namespace Go.X
open Go.Proofs

/-! ## solo as one thing that is ours -/
def putS (xl : List (I64 × TX)) (ti : I64) (x : Write) : Int := match alook xl ti with
  | none => 4
  | some q => putX q.2.2 x
def afterS (xl : List (I64 × TX)) (ti : I64) (x : Write) : List (I64 × TX) := match alook xl ti with
  | none => xl
  | some q => aput xl ti (q.1, (q.2.1, afterX q.2.2 x))
theorem afterX_len {ws : List (Key × Write)} {x : Write} (h : ws.length ≤ 16) : (afterX ws x).length ≤ 16 := by
  unfold afterX
  split
  · rename_i h0
    unfold putX at h0
    split at h0
    · cases h0
    · split at h0
      · cases h0
      · rename_i h1
        cases hl : alook ws x.key with
        | some u => rw [(aput_keep hl).2.1]; exact h
        | none =>
          have : ws.length < 16 := by
            rcases Nat.lt_or_ge ws.length 16 with h2 | h2
            · exact h2
            · exact absurd ⟨hl, h2⟩ h1
          rw [aput_length]; split <;> omega
  · exact h
section
variable {c : Cx} {R Ls : List Pt} {p : Nat} {l : List (Key × CV)} {xl : List (I64 × TX)} {bg la : Int} {ti : I64}
theorem SoOwn.keys (hS : SoOwn p l xl bg la Ls) : (xl.map Prod.fst).Nodup := by
  obtain ⟨⟨sb, lm, es, ck, L1, L2, rfl, h1, h2, h3⟩, h4, h5, h6⟩ := hS
  exact h2.keys
theorem perm4 {X G L1 C1 C2 R : List Pt} (h : (G ++ C1).Perm C2) : (X ++ (G ++ (L1 ++ (C1 ++ R)))).Perm (X ++ (L1 ++ (C2 ++ R))) := List.Perm.append_left X (perm3 h)
theorem perm5 {a b : Pt} {G L1 C1 C2 R : List Pt} (h : (G ++ C1).Perm C2) : (a :: b :: (G ++ (L1 ++ (C1 ++ R)))).Perm ((a :: b :: (L1 ++ C2)) ++ R) := by
  simpa using perm4 (X := [a, b]) (L1 := L1) (R := R) h
theorem perm6 {a b : Pt} {G L1 C1 C2 R : List Pt} (h : C2.Perm (G ++ C1)) : (a :: b :: (L1 ++ (C2 ++ R))).Perm (a :: b :: (G ++ (L1 ++ (C1 ++ R)))) := by
  simpa using (perm4 (X := [a, b]) (L1 := L1) (R := R) h.symm).symm
theorem Fn.weak {P : Program} {f : FuncId} {args : Array Value} {c : Cx} {L : List Pt} {post post' : Value → List Pt → Prop} (h : Fn P f args c L post)
    (hp : ∀ v L', post v L' → ∃ L'', post' v L'' ∧ ∃ L3, L'.Perm L3 ∧ L''.Sublist L3) : Fn P f args c L post' := fun w hw => (h w hw).mono fun x w' ⟨v, h1, L', h2, h3⟩ => by
  obtain ⟨L'', h4, L3, h5, h6⟩ := hp v L' h2
  exact ⟨v, h1, L'', h4, (h3.perm h5).sub h6⟩
theorem C_So_Begin (hS : SoOwn p l xl bg la Ls) (hti : ti.1 = bg + 1) (hlen : xl.length < 100) (hbg : bg < 1000000) :
    Fn Tryz.prog 53 #[.pointer (some ⟨p, 0, none⟩)] c (Ls ++ R) (fun v L' => v = .tuple #[.int .i64 (bg + 1), .int .i64 0] ∧ ∃ xb Ls', SoOwn p l (aput xl ti (xb, (⟨la, 0⟩, []))) (bg + 1) la Ls' ∧ L' = Ls' ++ R) := by
  obtain ⟨⟨sb, lm, es, ck, L1, L2, rfl, h1, h2, h3⟩, h4, h5, h6⟩ := hS
  simp only [List.cons_append, List.append_assoc]
  refine Fn.post (C_solo_Begin_own (L := R) h1 h2 hti hlen ⟨h5.1, hbg⟩) ?_
  rintro v L' ⟨hv, xb, mb, es3, ck3, hm3, hL⟩
  have hn : alook xl ti = none := by
    cases hl : alook xl ti with
    | none => rfl
    | some q => have := h6 _ (alook_mem hl); simp only at this; omega
  obtain ⟨Cs', hc1, hc2⟩ := OwnL.new (O := OneT) (q := (xb, (⟨la, 0⟩, []))) (G := [(xb, .cells #[.int .i64 la, .int .u8 0, .map (some mb)] 208 (0, 0)), (mb, .map #[] 0)]) ⟨mb, #[], 0, rfl, MapIs.nil, by simp⟩ h3 hn
  refine ⟨_, ⟨hv, xb, _, ⟨⟨sb, lm, es3, ck3, L1, Cs', rfl, h1, hm3, hc1⟩, ?_, by omega, fun q hq => ?_⟩, rfl⟩, ?_⟩
  · rw [aput_length]; split <;> omega
  · have h7 := (aput_keys ti _ xl q.1).1 (List.mem_map.2 ⟨q, hq, rfl⟩)
    rcases h7 with h7 | h7
    · rw [h7]; omega
    · obtain ⟨r, hr, he⟩ := List.mem_map.1 h7
      have := h6 r hr; rw [he] at this; omega
  · rw [hL]
    simpa using perm3 (X := (p, _) :: (lm, _) :: L1) (R := R) hc2
theorem C_So_Put {x : Write} (hS : SoOwn p l xl bg la Ls) :
    Fn Tryz.prog 54 #[.pointer (some ⟨p, 0, none⟩), .int .i64 ti.1, .agg (Write_enc x)] c (Ls ++ R) (fun v L' => v = .int .i64 (putS xl ti x) ∧ ∃ Ls', SoOwn p l (afterS xl ti x) bg la Ls' ∧ L' = Ls' ++ R) := by
  obtain ⟨⟨sb, lm, es, ck, L1, L2, rfl, h1, h2, h3⟩, h4, h5, h6⟩ := hS
  simp only [List.cons_append, List.append_assoc]
  unfold putS afterS
  cases hl : alook xl ti with
  | none =>
    refine Fn.mono (C_solo_Put_none (L := R) h1 h2 hl) ?_
    rintro v L' ⟨hv, hL⟩
    exact ⟨hv, _, ⟨⟨sb, lm, es, ck, L1, L2, rfl, h1, h2, h3⟩, h4, h5, h6⟩, by rw [hL]; simp⟩
  | some q =>
    obtain ⟨G, C1, hp, ⟨mb, es9, ck9, rfl, hM, h16⟩, hb, _⟩ := OwnL.take h3 hl
    refine Fn.perm (L2 := (p, _) :: (lm, _) :: (_ :: _ :: (L1 ++ (C1 ++ R)))) ?_ (perm4 (X := [(p, _), (lm, _)]) hp.symm).symm
    refine Fn.post (C_solo_Put_some (L := R) h1 h2 hl hM h16) ?_
    rintro v L' ⟨hv, es3, ck3, hm3, hL⟩
    obtain ⟨Cs', hc1, hc2⟩ := hb (q.1, (q.2.1, afterX q.2.2 x)) _ ⟨mb, es3, ck3, rfl, hm3, afterX_len h16⟩
    have hk := aput_keep (u := (q.1, (q.2.1, afterX q.2.2 x))) hl
    refine ⟨_, ⟨hv, _, ⟨⟨sb, lm, es, ck, L1, Cs', rfl, h1, h2.upd hl rfl, hc1⟩, by rw [hk.2.1]; exact h4, h5, fun r hr => ?_⟩, rfl⟩, ?_⟩
    · have h7 : r.1 ∈ xl.map Prod.fst := by rw [← hk.1]; exact List.mem_map.2 ⟨r, hr, rfl⟩
      obtain ⟨r2, hr2, he⟩ := List.mem_map.1 h7
      have := h6 r2 hr2; rw [he] at this; exact this
    · rw [hL]
      exact perm5 hc2
theorem C_So_Commit (hS : SoOwn p l xl bg la Ls) (hla : la < 1000000) :
    Fn Tryz.prog 56 #[.pointer (some ⟨p, 0, none⟩), .int .i64 ti.1] c (Ls ++ R) (fun v L' => ∃ r e l' la' Ls', v = .tuple #[.agg (Stamp_enc r), .int .i64 e] ∧ SoOwn p l' (adel xl ti) bg la' Ls' ∧
      (match alook xl ti with
      | none => r = .zero ∧ e = 4 ∧ l' = l ∧ la' = la
      | some q => ComX l la q.2.1 q.2.2 r e l' la') ∧ L' = Ls' ++ R) := by
  have hnd := hS.keys
  obtain ⟨⟨sb, lm, es, ck, L1, L2, rfl, h1, h2, h3⟩, h4, h5, h6⟩ := hS
  simp only [List.cons_append, List.append_assoc]
  have hlen := (adel_sub ti xl).length_le
  have hids : ∀ q ∈ adel xl ti, q.1.1 ≤ bg := fun q hq => h6 q ((adel_sub ti xl).subset hq)
  cases hl : alook xl ti with
  | none =>
    have hd : adel xl ti = xl := by
      refine (alook_none ?_).2.2
      intro hm
      obtain ⟨q, hq, rfl⟩ := List.mem_map.1 hm
      rw [alook_of_mem hnd hq] at hl; cases hl
    refine Fn.mono (C_solo_Commit_none (L := R) h1 h2 hl) ?_
    rintro v L' ⟨hv, hL⟩
    exact ⟨_, _, _, _, _, hv, ⟨⟨sb, lm, es, ck, L1, L2, rfl, h1, hd.symm ▸ h2, hd.symm ▸ h3⟩, by omega, h5, hids⟩, ⟨rfl, rfl, rfl, rfl⟩, by rw [hL]; simp⟩
  | some q =>
    obtain ⟨G, C1, hp, ⟨mb, es9, ck9, rfl, hM, h16⟩, _, Cd, hc1, hc2⟩ := OwnL.take h3 hl
    refine Fn.perm (L2 := (p, _) :: (lm, _) :: (_ :: _ :: (L1 ++ (C1 ++ R)))) ?_ (perm4 (X := [(p, _), (lm, _)]) hp.symm).symm
    refine Fn.post (C_solo_Commit_some (L := R) h1 h2 hl hM h16 ⟨h5.2.2.1, hla⟩) ?_
    rintro v L' ⟨r, e, l', la', es3, Ls', hv, hm3, hs3, hcom, hL⟩
    have hla' : 0 ≤ la' ∧ la' ≤ 1000000 := by
      rcases hcom with ⟨_, _, _, _, h⟩ | ⟨_, _, _, _, _, h⟩ | ⟨_, _, _, _, _, h8, h9, h10⟩
      · omega
      · omega
      · by_cases he : e = 0
        · have := (h10 he).2.1; omega
        · have := (h9 he).2.2; omega
    refine ⟨_, ⟨r, e, l', la', _, hv, ⟨⟨sb, lm, es3, ck, Ls', Cd, rfl, hs3, hm3, hc1⟩, by omega, ⟨h5.1, h5.2.1, hla'⟩, hids⟩, hcom, rfl⟩, ?_⟩
    rw [hL]
    exact perm5 (G := []) hc2
theorem C_So_Abort (hS : SoOwn p l xl bg la Ls) :
    Fn Tryz.prog 130 #[.pointer (some ⟨p, 0, none⟩), .int .i64 ti.1] c (Ls ++ R) (fun v L' => v = .int .i64 (if (alook xl ti).isSome then 0 else 4) ∧ ∃ Ls', SoOwn p l (adel xl ti) bg la Ls' ∧ L' = Ls' ++ R) := by
  have hnd := hS.keys
  obtain ⟨⟨sb, lm, es, ck, L1, L2, rfl, h1, h2, h3⟩, h4, h5, h6⟩ := hS
  simp only [List.cons_append, List.append_assoc]
  have hlen := (adel_sub ti xl).length_le
  have hids : ∀ q ∈ adel xl ti, q.1.1 ≤ bg := fun q hq => h6 q ((adel_sub ti xl).subset hq)
  cases hl : alook xl ti with
  | none =>
    have hd : adel xl ti = xl := by
      refine (alook_none ?_).2.2
      intro hm
      obtain ⟨q, hq, rfl⟩ := List.mem_map.1 hm
      rw [alook_of_mem hnd hq] at hl; cases hl
    refine Fn.mono (C_solo_Abort_none (L := R) h1 h2 hl) ?_
    rintro v L' ⟨hv, hL⟩
    exact ⟨hv, _, ⟨⟨sb, lm, es, ck, L1, L2, rfl, h1, hd.symm ▸ h2, hd.symm ▸ h3⟩, by omega, h5, hids⟩, by rw [hL]; simp⟩
  | some q =>
    obtain ⟨G, C1, hp, hO, _, Cd, hc1, hc2⟩ := OwnL.take h3 hl
    refine Fn.weak (C_solo_Abort_some (L := R) h1 h2 hl) ?_
    rintro v _ ⟨hv, es3, hm3, rfl⟩
    refine ⟨_, ⟨hv, _, ⟨⟨sb, lm, es3, ck, L1, Cd, rfl, h1, hm3, hc1⟩, by omega, h5, hids⟩, rfl⟩, _, perm6 (hp.trans (hc2.append_left G)), ?_⟩
    simp
theorem C_So_Trim (hS : SoOwn p l xl bg la Ls) :
    Fn Tryz.prog 60 #[.pointer (some ⟨p, 0, none⟩)] c (Ls ++ R) (fun v L' => ∃ s0 l' Ls', LeastS xl la s0 ∧ v = .int .i64 (trimS l s0) ∧ SoOwn p l' xl bg la Ls' ∧ TrimR l s0 l' ∧ L' = Ls' ++ R) := by
  obtain ⟨⟨sb, lm, es, ck, L1, L2, rfl, h1, h2, h3⟩, h4, h5, h6⟩ := hS
  simp only [List.cons_append, List.append_assoc]
  refine Fn.mono (C_solo_Trim (L := R) h1 h2 h3) ?_
  rintro v L' ⟨s0, l', Ls', ha, hb, hc, hd, hL⟩
  exact ⟨s0, l', _, ha, hb, ⟨⟨sb, lm, es, ck, Ls', L2, rfl, hc, h2, h3⟩, h4, h5, h6⟩, hd, by rw [hL]; simp⟩
theorem C_So_Open (hS : SoOwn p l xl bg la Ls) :
    Fn Tryz.prog 62 #[.pointer (some ⟨p, 0, none⟩)] c (Ls ++ R) (fun v L' => ∃ ys Lo, ys.Perm (xl.map fun q => q.1.1) ∧ ys.Pairwise (· ≤ ·) ∧ OwnI ys v Lo ∧ L' = Lo ++ (Ls ++ R)) := by
  obtain ⟨⟨sb, lm, es, ck, L1, L2, rfl, h1, h2, h3⟩, h4, h5, h6⟩ := hS
  exact C_solo_Open (L := _ :: (lm, .map es ck) :: ((L1 ++ L2) ++ R)) .head Rd.head.cons h2 (by omega)
theorem C_So_Last (hS : SoOwn p l xl bg la Ls) : Fn Tryz.prog 63 #[.pointer (some ⟨p, 0, none⟩)] c (Ls ++ R) (fun v L' => v = .int .i64 la ∧ L' = Ls ++ R) := by
  obtain ⟨⟨sb, lm, es, ck, L1, L2, rfl, h1, h2, h3⟩, h4, h5, h6⟩ := hS
  exact C_solo_Last (L := _ :: (lm, .map es ck) :: ((L1 ++ L2) ++ R)) .head
end

end Go.X

/- Acts upon solo: plain. -/
namespace Go.X
structure SAct where
  op : Int
  n : Int
  id : Int
  w : Write
  to : Key
deriving DecidableEq
def SAct_enc (a : SAct) : Array Value := #[.int .i64 a.op, .int .i64 a.n, .int .i64 a.id, kc a.w.key 0, kc a.w.key 1, kc a.w.key 2, kc a.w.key 3, kc a.w.key 4, kc a.w.key 5, kc a.w.key 6, kc a.w.key 7, kc a.w.key 8, kc a.w.key 9, kc a.w.key 10, kc a.w.key 11, kc a.w.key 12, kc a.w.key 13, kc a.w.key 14, kc a.w.key 15, .string a.w.val, .bool a.w.gone, kc a.to 0, kc a.to 1, kc a.to 2, kc a.to 3, kc a.to 4, kc a.to 5, kc a.to 6, kc a.to 7, kc a.to 8, kc a.to 9, kc a.to 10, kc a.to 11, kc a.to 12, kc a.to 13, kc a.to 14, kc a.to 15]
theorem SAct_size (a : SAct) : (SAct_enc a).size = 37 := rfl
theorem SAct_op (a : SAct) : (SAct_enc a)[0]? = some (.int .i64 a.op) := rfl
theorem SAct_id (a : SAct) : (SAct_enc a)[2]? = some (.int .i64 a.id) := rfl
theorem SAct_w (a : SAct) : (SAct_enc a).extract 3 (3 + 18) = Write_enc a.w := by kernel_rfl
theorem SAct_one (a : SAct) : ∀ u ∈ (Value.agg (SAct_enc a)).cells.toList, Value.oneCell' u = true := by
  intro u hu
  simp only [Value.cells, SAct_enc, List.mem_cons, List.not_mem_nil, or_false] at hu
  rcases hu with rfl | rfl | rfl | rfl | rfl | rfl | rfl | rfl | rfl | rfl | rfl | rfl | rfl | rfl | rfl | rfl | rfl | rfl | rfl | rfl | rfl | rfl | rfl | rfl | rfl | rfl | rfl | rfl | rfl | rfl | rfl | rfl | rfl | rfl | rfl | rfl | rfl <;> rfl
theorem SAct_put (a : SAct) {cs : Array Value} (h : cs.size = 37) : putL cs 0 (Value.agg (SAct_enc a)).cells.toList = SAct_enc a := putL_whole (h.trans (SAct_size a).symm)
theorem SAct_room {cs : Array Value} (h : cs.size = 37) : 0 + 37 ≤ cs.size := by omega
def SAct.zero : SAct := ⟨0, 0, 0, .zero, .zero⟩
end Go.X

namespace Go.X
open Go.Proofs
theorem ds_96 : isDesc Tryz.prog 96 = 5 := by kernel_rfl
theorem fo_205_0 : fieldOff Tryz.prog 205 0 = some 0 := by kernel_rfl
theorem fo_205_2 : fieldOff Tryz.prog 205 2 = some 2 := by kernel_rfl
theorem fo_205_3 : fieldOff Tryz.prog 205 3 = some 3 := by kernel_rfl
theorem hb_130 : hasBody Tryz.prog 130 = true := by kernel_rfl
theorem hb_53 : hasBody Tryz.prog 53 = true := by kernel_rfl
theorem hb_54 : hasBody Tryz.prog 54 = true := by kernel_rfl
theorem hb_56 : hasBody Tryz.prog 56 = true := by kernel_rfl
theorem hb_60 : hasBody Tryz.prog 60 = true := by kernel_rfl
theorem hb_62 : hasBody Tryz.prog 62 = true := by kernel_rfl
theorem kd_205 : kindOf Tryz.prog 205 = some (true, 37) := by kernel_rfl
theorem sl_96 : sliceOf Tryz.prog 96 = some (205, 37) := by kernel_rfl
theorem zo_205 : zeroOf Tryz.prog 205 = some (.agg #[.int .i64 0, .int .i64 0, .int .i64 0, .int .u8 0, .int .u8 0, .int .u8 0, .int .u8 0, .int .u8 0, .int .u8 0, .int .u8 0, .int .u8 0, .int .u8 0, .int .u8 0, .int .u8 0, .int .u8 0, .int .u8 0, .int .u8 0, .int .u8 0, .int .u8 0, .string ⟨#[]⟩, .bool false, .int .u8 0, .int .u8 0, .int .u8 0, .int .u8 0, .int .u8 0, .int .u8 0, .int .u8 0, .int .u8 0, .int .u8 0, .int .u8 0, .int .u8 0, .int .u8 0, .int .u8 0, .int .u8 0, .int .u8 0, .int .u8 0]) := by kernel_rfl
/-! ## any calls -/
structure SoS where
  l : List (Key × CV)
  xl : List (I64 × TX)
  bg : Int
  la : Int
/-- calls, but of one transaction none: what may come of them -/
inductive Moves (nt : Int) (s : SoS) : SoS → Prop
  | refl : Moves nt s s
  | begin {t : SoS} {ti : I64} (xb : Nat) : Moves nt s t → ti.1 = t.bg + 1 → t.xl.length < 50 → Moves nt s ⟨t.l, aput t.xl ti (xb, (⟨t.la, 0⟩, [])), t.bg + 1, t.la⟩
  | put {t : SoS} {ti : I64} (x : Write) : Moves nt s t → ¬ (ti.1 = nt ∧ 0 < nt) → Moves nt s ⟨t.l, afterS t.xl ti x, t.bg, t.la⟩
  | commit {t : SoS} {ti : I64} {r : Stamp} {e : Int} {l' : List (Key × CV)} {la' : Int} : Moves nt s t → ¬ (ti.1 = nt ∧ 0 < nt) → (match alook t.xl ti with
      | none => r = .zero ∧ e = 4 ∧ l' = t.l ∧ la' = t.la
      | some q => ComX t.l t.la q.2.1 q.2.2 r e l' la') → Moves nt s ⟨l', adel t.xl ti, t.bg, la'⟩
  | abort {t : SoS} {ti : I64} : Moves nt s t → ¬ (ti.1 = nt ∧ 0 < nt) → Moves nt s ⟨t.l, adel t.xl ti, t.bg, t.la⟩
  | trim {t : SoS} {s0 : Stamp} {l' : List (Key × CV)} : Moves nt s t → LeastS t.xl t.la s0 → TrimR t.l s0 l' → Moves nt s ⟨l', t.xl, t.bg, t.la⟩
theorem wfI {x : Int} (h : 0 ≤ x) (h2 : x ≤ 2000000) : (Lit.int .i64 x).wf = true := by
  have h3 : (-9223372036854775808 : Int) ≤ x := by omega
  have h4 : x ≤ 9223372036854775807 := by omega
  show (decide ((-9223372036854775808 : Int) ≤ x) && decide (x ≤ 9223372036854775807)) = true
  rw [decide_eq_true h3, decide_eq_true h4]; rfl
theorem ComX.la_le {l l' : List (Key × CV)} {la la' e : Int} {s r : Stamp} {ws : List (Key × Write)} (h : ComX l la s ws r e l' la') : la' ≤ la + 1 := by
  rcases h with ⟨_, _, _, _, h⟩ | ⟨_, _, _, _, _, h⟩ | ⟨_, _, _, _, _, h8, h9, h10⟩
  · omega
  · omega
  · by_cases he : e = 0
    · have := (h10 he).2.1; omega
    · have := (h9 he).2.2; omega
theorem com_la {xl : List (I64 × TX)} {ti : I64} {l l' : List (Key × CV)} {la la' e : Int} {r : Stamp} (h : match alook xl ti with
      | none => r = .zero ∧ e = 4 ∧ l' = l ∧ la' = la
      | some q => ComX l la q.2.1 q.2.2 r e l' la') : la' ≤ la + 1 := by
  cases hl : alook xl ti with
  | none => rw [hl] at h; have := h.2.2.2; omega
  | some q => rw [hl] at h; exact h.la_le
theorem afterS_keys {xl : List (I64 × TX)} {ti : I64} {x : Write} : (afterS xl ti x).map Prod.fst = xl.map Prod.fst ∧ (afterS xl ti x).length = xl.length := by
  unfold afterS
  cases hl : alook xl ti with
  | none => exact ⟨rfl, rfl⟩
  | some q => have := aput_keep (u := (q.1, (q.2.1, afterX q.2.2 x))) hl; exact ⟨this.1, this.2.1⟩
theorem aput_le {K V : Type} [DecidableEq K] (k : K) (v : V) (l : List (K × V)) : (aput l k v).length ≤ l.length + 1 := by rw [aput_length]; split <;> omega

set_option maxRecDepth 100000 in
set_option maxHeartbeats 2000000 in
theorem C_play {c : Cx} {L : List Pt} {p N : Nat} {Ls : List Pt} {l : List (Key × CV)} {xl : List (I64 × TX)} {bg la nt : Int} (hS0 : SoOwn p l xl bg la Ls) {av : Option Addr} {nx cx : Nat} {xs : List SAct} (hX : SlAt c L SAct_enc av nx xs) (hQ : ∀ x ∈ xs, (Lit.int .i64 x.id).wf = true) (hN : 50 ≤ N ∧ N ≤ 90) (hx0 : xl.length ≤ N) (hb0 : bg + xs.length < 1000000) (ha0 : la + xs.length < 1000000) : Fn Tryz.prog 52 #[.pointer (some ⟨p, 0, none⟩), .slice av nx cx, .int .i64 nt] c (Ls ++ L) (fun v L' => ∃ l' xl' bg' la' Ls', SoOwn p l' xl' bg' la' Ls' ∧ Moves nt ⟨l, xl, bg, la⟩ ⟨l', xl', bg', la'⟩ ∧ xl'.length ≤ N ∧ bg' ≤ bg + xs.length ∧ la' ≤ la + xs.length ∧ L' = Ls' ++ L) := by
  have hwl := hX.len
  have hwt := hX.lt
  refine Fn.enter Tryz.func52 rfl 60 rfl rfl (fun R hR => ?_)
  refine Cd.seq (fun K1 hK1 => ?_)
  refine Cd.region [0] rfl ?_
  refine Seq.rd0 at0 rfl rfl (O.assign (v := .int .i64 _) rfl) ?_
  refine Seq.nil ?_
  refine hK1 ?_
  refine Cd.block ?_
  refine Cd.loop (fun m2 e3 L4 => ∃ i : Nat, ∃ l1 : List (Key × CV), ∃ xl1 : List (I64 × TX), ∃ bg1 : Int, ∃ la1 : Int, ∃ Ls1 : List Pt, m2 = xs.length - i ∧ e3 0 = .pointer (some ⟨p, 0, none⟩) ∧ e3 1 = .slice av nx cx ∧ e3 2 = .int .i64 nt ∧ e3 6 = .int .i64 (i : Int) ∧ L4 = (Ls1 ++ (L)) ∧ i ≤ xs.length ∧ SoOwn p l1 xl1 bg1 la1 Ls1 ∧ Moves nt ⟨l, xl, bg, la⟩ ⟨l1, xl1, bg1, la1⟩ ∧ xl1.length ≤ N ∧ bg1 ≤ bg + i ∧ la1 ≤ la + i) _ ⟨0, l, xl, bg, la, Ls, rfl, rfl, rfl, rfl, rfl, rfl, Nat.zero_le _, hS0, by exact .refl, hx0, by omega, by omega⟩ ?_
  rintro _ e3 _ ⟨i, l1, xl1, bg1, la1, Ls1, rfl, s5, s6, s7, s8, rfl, hi, hS1, hM, hx1, hb1, ha1⟩ K9 hK9
  have hnum := hS1.num
  refine Cd.seq (fun K10 hK10 => ?_)
  refine Cd.seq (fun K11 hK11 => ?_)
  refine Cd.region [0, 1, 2, 3] rfl ?_
  refine Seq.rd0 at0 rfl rfl (O.move (v := .int .i64 _) (by exact s8)) ?_
  refine Seq.rd0 at1 rfl rfl (O.move (v := .slice _ _ _) (by exact s6)) ?_
  refine Seq.rd0 at2 rfl rfl (O.lenS ds_96 rfl) ?_
  refine Seq.rd0 at3 rfl rfl (O.lss rfl rfl) ?_
  refine Seq.nil ?_
  refine hK11 ?_
  refine Cd.if ((i : Int) < (nx : Int)) rfl (fun t12 => ?_) (fun t12 => ?_)
  · skip
    refine Cd.skip ?_
    refine hK10 ?_
    refine Cd.seq (fun K13 hK13 => ?_)
    refine Cd.block ?_
    refine Cd.seq (fun K14 hK14 => ?_)
    refine Cd.region [0, 1, 2, 3, 4, 5] rfl ?_
    refine Seq.rd0 at0 rfl rfl (O.move (v := .slice _ _ _) (by exact s6)) ?_
    refine Seq.rd0 at1 rfl rfl (O.move (v := .int .i64 _) (by exact s8)) ?_
    have hlt15 : i < xs.length := by omega
    obtain ⟨pre15, sp15, el15, fz15, hav15, hrd15⟩ := hX.at_ hlt15
    have hwf := hQ _ (List.getElem_mem hlt15)
    refine Seq.rd0 at2 rfl rfl (O.indexG sl_96 rfl hav15 rfl (by omega) (by omega)) ?_
    refine Seq.rd1 at3 rfl rfl (O.loadA kd_205 rfl (rowRoomP SAct_size (getN hlt15)) (rowAtP SAct_size (getN hlt15))) hrd15.app ?_
    refine Seq.op at4 rfl (Op.new rfl (O.alloc zo_205 (cs := (SAct_enc SAct.zero)) rfl) ?_)
    intro b16 hb16
    refine Seq.op at5 rfl (Op.set0 rfl (O.store kd_205 rfl (v := .agg _) rfl (SAct_size _) (SAct_room (SAct_size _)) (SAct_one _) (SAct_put _ (SAct_size _))) ?_)
    refine Seq.nil ?_
    refine hK14 ?_
    refine Cd.seq (fun K17 hK17 => ?_)
    refine Cd.seq (fun K18 hK18 => ?_)
    refine Cd.region [0, 1, 2, 3, 4, 5, 6, 7] rfl ?_
    refine Seq.rd0 at0 rfl rfl (O.field fo_205_2 rfl) ?_
    refine Seq.rd1 at1 rfl rfl (O.load kd_2 rfl (SAct_id _)) Rd.head ?_
    refine Seq.rd0 at2 rfl rfl (O.move (v := .int .i64 _) (by exact s7)) ?_
    refine Seq.rd0 at3 rfl rfl (O.eqI rfl rfl) ?_
    refine Seq.rd0 at4 rfl rfl (O.move (v := .bool _) rfl) ?_
    by_cases t19 : xs[i].id = nt
    · rw [decide_eq_true t19]
      refine Seq.rd0 at5 rfl rfl (O.move (v := .int .i64 _) (by exact s7)) ?_
      refine Seq.rd0 at6 rfl rfl (O.gtr rfl rfl) ?_
      refine Seq.rd0 at7 rfl rfl (O.pickT (v := .bool _) rfl rfl) ?_
      refine Seq.nil ?_
      refine hK18 ?_
      refine Cd.if ((0 : Int) < nt) rfl (fun t20 => ?_) (fun t20 => ?_)
      · skip
        refine Cd.exit ?_
        refine hK13 ?_
        refine Cd.region [0, 1, 2] rfl ?_
        refine Seq.rd0 at0 rfl rfl (O.move (v := .int .i64 _) (by exact s8)) ?_
        refine Seq.rd0 at1 rfl rfl (O.add rfl rfl (by omega) (by omega)) ?_
        refine Seq.rd0 at2 rfl rfl (O.assign (v := .int .i64 _) rfl) ?_
        refine Seq.nil ?_
        refine Ent.drop ?_
        exact hK9 _ (by omega) ⟨i + 1, l1, xl1, bg1, la1, Ls1, rfl, (by exact s5), (by exact s6), (by exact s7), rfl, rfl, by omega, hS1, hM, hx1, by omega, by omega⟩
      · skip
        refine Cd.skip ?_
        refine hK17 ?_
        refine Cd.seq (fun K21 hK21 => ?_)
        refine Cd.region [0, 1] rfl ?_
        refine Seq.rd0 at0 rfl rfl (O.field fo_205_0 rfl) ?_
        refine Seq.rd1 at1 rfl rfl (O.load kd_3 rfl (SAct_op _)) Rd.head ?_
        refine Seq.nil ?_
        refine hK21 ?_
        refine Cd.block ?_
        refine Cd.seq (fun K22 hK22 => ?_)
        refine Cd.region [0, 1] rfl ?_
        refine Seq.rd0 at0 rfl rfl (O.eqI rfl rfl) ?_
        refine Seq.rd0 at1 rfl rfl (O.assign (v := .bool _) rfl) ?_
        refine Seq.nil ?_
        refine hK22 ?_
        refine Cd.if (xs[i].op = 0) rfl (fun t23 => ?_) (fun t23 => ?_)
        · skip
          refine Cd.seq (fun K24 hK24 => ?_)
          refine Cd.region [0, 1, 2, 3] rfl ?_
          refine Seq.rd0 at0 rfl rfl (O.move (v := .pointer _) (by exact s5)) ?_
          refine Seq.op at1 rfl (Op.callF rfl hb_62 (Fn.perm (C_So_Open (R := ((b16, _) :: []) ++ L) hS1) (bring (pre := ((b16, _) :: [])) (Ls := Ls1) (R := L))) rfl ?_)
          rintro _ _ ⟨ys, Lo, hpy, hoy, hoi, rfl⟩
          obtain ⟨av9, cap9, rfl⟩ := OwnSl.form hoi
          have hyl : ys.length = xl1.length := by rw [hpy.length_eq, List.length_map]
          refine Ent.sub ?_ (sub_app (G := Lo) (.refl _))
          refine Ent.perm ?_ (bring (Ls := Ls1) (pre := ((b16, _) :: [])) (R := L)).symm
          refine Seq.rd0 at2 rfl rfl (O.lenS ds_72 rfl) ?_
          refine Seq.rd0 at3 rfl rfl (O.lss rfl rfl) ?_
          refine Seq.nil ?_
          refine hK24 ?_
          refine Cd.if ((ys.length : Int) < 50) rfl (fun t25 => ?_) (fun t25 => ?_)
          · skip
            refine Cd.region [0, 1] rfl ?_
            refine Seq.rd0 at0 rfl rfl (O.move (v := .pointer _) (by exact s5)) ?_
            have hib : (Lit.int .i64 (bg1 + 1)).wf = true := wfI (by omega) (by omega)
            refine Seq.op at1 rfl (Op.callF rfl hb_53 (Fn.perm (C_So_Begin (R := ((b16, _) :: []) ++ L) (ti := ⟨bg1 + 1, hib⟩) hS1 rfl (by omega) (by omega)) (bring (pre := ((b16, _) :: [])) (Ls := Ls1) (R := L))) rfl ?_)
            rintro _ _ ⟨rfl, xbLsB, LsB, hSB, rfl⟩
            refine Ent.perm ?_ (bring (Ls := LsB) (pre := ((b16, _) :: [])) (R := L)).symm
            refine Seq.nil ?_
            refine hK13 ?_
            refine Cd.region [0, 1, 2] rfl ?_
            refine Seq.rd0 at0 rfl rfl (O.move (v := .int .i64 _) (by exact s8)) ?_
            refine Seq.rd0 at1 rfl rfl (O.add rfl rfl (by omega) (by omega)) ?_
            refine Seq.rd0 at2 rfl rfl (O.assign (v := .int .i64 _) rfl) ?_
            refine Seq.nil ?_
            refine Ent.drop ?_
            exact hK9 _ (by omega) ⟨i + 1, l1, (aput xl1 ⟨bg1 + 1, hib⟩ (xbLsB, (⟨la1, 0⟩, []))), (bg1 + 1), la1, LsB, rfl, (by exact s5), (by exact s6), (by exact s7), rfl, rfl, by omega, hSB, by exact Moves.begin xbLsB hM rfl (by simp only; omega), by have := aput_le (⟨bg1 + 1, hib⟩ : I64) (xbLsB, ((⟨la1, 0⟩ : Stamp), ([] : List (Key × Write)))) xl1; omega, by omega, by omega⟩
          · skip
            refine Cd.skip ?_
            refine hK13 ?_
            refine Cd.region [0, 1, 2] rfl ?_
            refine Seq.rd0 at0 rfl rfl (O.move (v := .int .i64 _) (by exact s8)) ?_
            refine Seq.rd0 at1 rfl rfl (O.add rfl rfl (by omega) (by omega)) ?_
            refine Seq.rd0 at2 rfl rfl (O.assign (v := .int .i64 _) rfl) ?_
            refine Seq.nil ?_
            refine Ent.drop ?_
            exact hK9 _ (by omega) ⟨i + 1, l1, xl1, bg1, la1, Ls1, rfl, (by exact s5), (by exact s6), (by exact s7), rfl, rfl, by omega, hS1, hM, hx1, by omega, by omega⟩
        · skip
          refine Cd.seq (fun K26 hK26 => ?_)
          refine Cd.region [0, 1] rfl ?_
          refine Seq.rd0 at0 rfl rfl (O.eqI rfl rfl) ?_
          refine Seq.rd0 at1 rfl rfl (O.assign (v := .bool _) rfl) ?_
          refine Seq.nil ?_
          refine hK26 ?_
          refine Cd.if (xs[i].op = 3) rfl (fun t27 => ?_) (fun t27 => ?_)
          · skip
            refine Cd.region [0, 1, 2, 3, 4, 5] rfl ?_
            refine Seq.rd0 at0 rfl rfl (O.move (v := .pointer _) (by exact s5)) ?_
            refine Seq.rd0 at1 rfl rfl (O.field fo_205_2 rfl) ?_
            refine Seq.rd1 at2 rfl rfl (O.load kd_2 rfl (SAct_id _)) Rd.head ?_
            refine Seq.rd0 at3 rfl rfl (O.field fo_205_3 rfl) ?_
            refine Seq.rd1 at4 rfl rfl (O.loadA kd_47 rfl (Nat.le_of_ble_eq_true rfl) (SAct_w _)) Rd.head ?_
            have hsk : ¬ ((⟨xs[i].id, hwf⟩ : I64).1 = nt ∧ 0 < nt) := by first | assumption | (rintro ⟨h1, h2⟩; first | exact absurd h1 (by assumption) | exact absurd h2 (by assumption) | omega)
            refine Seq.op at5 rfl (Op.callF rfl hb_54 (Fn.perm (C_So_Put (R := ((b16, _) :: []) ++ L) (ti := (⟨xs[i].id, hwf⟩ : I64)) (x := xs[i].w) hS1) (bring (pre := ((b16, _) :: [])) (Ls := Ls1) (R := L))) rfl ?_)
            rintro _ _ ⟨rfl, LsP, hSP, rfl⟩
            refine Ent.perm ?_ (bring (Ls := LsP) (pre := ((b16, _) :: [])) (R := L)).symm
            refine Seq.nil ?_
            refine hK13 ?_
            refine Cd.region [0, 1, 2] rfl ?_
            refine Seq.rd0 at0 rfl rfl (O.move (v := .int .i64 _) (by exact s8)) ?_
            refine Seq.rd0 at1 rfl rfl (O.add rfl rfl (by omega) (by omega)) ?_
            refine Seq.rd0 at2 rfl rfl (O.assign (v := .int .i64 _) rfl) ?_
            refine Seq.nil ?_
            refine Ent.drop ?_
            exact hK9 _ (by omega) ⟨i + 1, l1, (afterS xl1 (⟨xs[i].id, hwf⟩ : I64) xs[i].w), bg1, la1, LsP, rfl, (by exact s5), (by exact s6), (by exact s7), rfl, rfl, by omega, hSP, by exact Moves.put _ hM (by assumption), by rw [afterS_keys.2]; exact hx1, by omega, by omega⟩
          · skip
            refine Cd.seq (fun K28 hK28 => ?_)
            refine Cd.region [0, 1] rfl ?_
            refine Seq.rd0 at0 rfl rfl (O.eqI rfl rfl) ?_
            refine Seq.rd0 at1 rfl rfl (O.assign (v := .bool _) rfl) ?_
            refine Seq.nil ?_
            refine hK28 ?_
            refine Cd.if (xs[i].op = 4) rfl (fun t29 => ?_) (fun t29 => ?_)
            · skip
              refine Cd.region [0, 1, 2, 3] rfl ?_
              refine Seq.rd0 at0 rfl rfl (O.move (v := .pointer _) (by exact s5)) ?_
              refine Seq.rd0 at1 rfl rfl (O.field fo_205_2 rfl) ?_
              refine Seq.rd1 at2 rfl rfl (O.load kd_2 rfl (SAct_id _)) Rd.head ?_
              have hsk : ¬ ((⟨xs[i].id, hwf⟩ : I64).1 = nt ∧ 0 < nt) := by first | assumption | (rintro ⟨h1, h2⟩; first | exact absurd h1 (by assumption) | exact absurd h2 (by assumption) | omega)
              refine Seq.op at3 rfl (Op.callF rfl hb_56 (Fn.perm (C_So_Commit (R := ((b16, _) :: []) ++ L) (ti := (⟨xs[i].id, hwf⟩ : I64)) hS1 (by omega)) (bring (pre := ((b16, _) :: [])) (Ls := Ls1) (R := L))) rfl ?_)
              rintro _ _ ⟨rC, eC, lC, laC, LsC, rfl, hSC, hcomC, rfl⟩
              refine Ent.perm ?_ (bring (Ls := LsC) (pre := ((b16, _) :: [])) (R := L)).symm
              refine Seq.nil ?_
              refine hK13 ?_
              refine Cd.region [0, 1, 2] rfl ?_
              refine Seq.rd0 at0 rfl rfl (O.move (v := .int .i64 _) (by exact s8)) ?_
              refine Seq.rd0 at1 rfl rfl (O.add rfl rfl (by omega) (by omega)) ?_
              refine Seq.rd0 at2 rfl rfl (O.assign (v := .int .i64 _) rfl) ?_
              refine Seq.nil ?_
              refine Ent.drop ?_
              exact hK9 _ (by omega) ⟨i + 1, lC, (adel xl1 (⟨xs[i].id, hwf⟩ : I64)), bg1, laC, LsC, rfl, (by exact s5), (by exact s6), (by exact s7), rfl, rfl, by omega, hSC, by exact Moves.commit hM (by assumption) hcomC, Nat.le_trans (adel_sub _ _).length_le hx1, by omega, by have := com_la hcomC; omega⟩
            · skip
              refine Cd.seq (fun K30 hK30 => ?_)
              refine Cd.region [0, 1] rfl ?_
              refine Seq.rd0 at0 rfl rfl (O.eqI rfl rfl) ?_
              refine Seq.rd0 at1 rfl rfl (O.assign (v := .bool _) rfl) ?_
              refine Seq.nil ?_
              refine hK30 ?_
              refine Cd.if (xs[i].op = 5) rfl (fun t31 => ?_) (fun t31 => ?_)
              · skip
                refine Cd.region [0, 1, 2, 3] rfl ?_
                refine Seq.rd0 at0 rfl rfl (O.move (v := .pointer _) (by exact s5)) ?_
                refine Seq.rd0 at1 rfl rfl (O.field fo_205_2 rfl) ?_
                refine Seq.rd1 at2 rfl rfl (O.load kd_2 rfl (SAct_id _)) Rd.head ?_
                have hsk : ¬ ((⟨xs[i].id, hwf⟩ : I64).1 = nt ∧ 0 < nt) := by first | assumption | (rintro ⟨h1, h2⟩; first | exact absurd h1 (by assumption) | exact absurd h2 (by assumption) | omega)
                refine Seq.op at3 rfl (Op.callF rfl hb_130 (Fn.perm (C_So_Abort (R := ((b16, _) :: []) ++ L) (ti := (⟨xs[i].id, hwf⟩ : I64)) hS1) (bring (pre := ((b16, _) :: [])) (Ls := Ls1) (R := L))) rfl ?_)
                rintro _ _ ⟨rfl, LsA, hSA, rfl⟩
                refine Ent.perm ?_ (bring (Ls := LsA) (pre := ((b16, _) :: [])) (R := L)).symm
                refine Seq.nil ?_
                refine hK13 ?_
                refine Cd.region [0, 1, 2] rfl ?_
                refine Seq.rd0 at0 rfl rfl (O.move (v := .int .i64 _) (by exact s8)) ?_
                refine Seq.rd0 at1 rfl rfl (O.add rfl rfl (by omega) (by omega)) ?_
                refine Seq.rd0 at2 rfl rfl (O.assign (v := .int .i64 _) rfl) ?_
                refine Seq.nil ?_
                refine Ent.drop ?_
                exact hK9 _ (by omega) ⟨i + 1, l1, (adel xl1 (⟨xs[i].id, hwf⟩ : I64)), bg1, la1, LsA, rfl, (by exact s5), (by exact s6), (by exact s7), rfl, rfl, by omega, hSA, by exact Moves.abort hM (by assumption), Nat.le_trans (adel_sub _ _).length_le hx1, by omega, by omega⟩
              · skip
                refine Cd.seq (fun K32 hK32 => ?_)
                refine Cd.region [0, 1] rfl ?_
                refine Seq.rd0 at0 rfl rfl (O.eqI rfl rfl) ?_
                refine Seq.rd0 at1 rfl rfl (O.assign (v := .bool _) rfl) ?_
                refine Seq.nil ?_
                refine hK32 ?_
                refine Cd.if (xs[i].op = 6) rfl (fun t33 => ?_) (fun t33 => ?_)
                · skip
                  refine Cd.region [0, 1] rfl ?_
                  refine Seq.rd0 at0 rfl rfl (O.move (v := .pointer _) (by exact s5)) ?_
                  refine Seq.op at1 rfl (Op.callF rfl hb_60 (Fn.perm (C_So_Trim (R := ((b16, _) :: []) ++ L) hS1) (bring (pre := ((b16, _) :: [])) (Ls := Ls1) (R := L))) rfl ?_)
                  rintro _ _ ⟨s0, lt, LsT, hls, rfl, hST, htr, rfl⟩
                  refine Ent.perm ?_ (bring (Ls := LsT) (pre := ((b16, _) :: [])) (R := L)).symm
                  refine Seq.nil ?_
                  refine hK13 ?_
                  refine Cd.region [0, 1, 2] rfl ?_
                  refine Seq.rd0 at0 rfl rfl (O.move (v := .int .i64 _) (by exact s8)) ?_
                  refine Seq.rd0 at1 rfl rfl (O.add rfl rfl (by omega) (by omega)) ?_
                  refine Seq.rd0 at2 rfl rfl (O.assign (v := .int .i64 _) rfl) ?_
                  refine Seq.nil ?_
                  refine Ent.drop ?_
                  exact hK9 _ (by omega) ⟨i + 1, lt, xl1, bg1, la1, LsT, rfl, (by exact s5), (by exact s6), (by exact s7), rfl, rfl, by omega, hST, by exact Moves.trim hM hls htr, hx1, by omega, by omega⟩
                · skip
                  refine Cd.skip ?_
                  refine hK13 ?_
                  refine Cd.region [0, 1, 2] rfl ?_
                  refine Seq.rd0 at0 rfl rfl (O.move (v := .int .i64 _) (by exact s8)) ?_
                  refine Seq.rd0 at1 rfl rfl (O.add rfl rfl (by omega) (by omega)) ?_
                  refine Seq.rd0 at2 rfl rfl (O.assign (v := .int .i64 _) rfl) ?_
                  refine Seq.nil ?_
                  refine Ent.drop ?_
                  exact hK9 _ (by omega) ⟨i + 1, l1, xl1, bg1, la1, Ls1, rfl, (by exact s5), (by exact s6), (by exact s7), rfl, rfl, by omega, hS1, hM, hx1, by omega, by omega⟩
    · rw [decide_eq_false t19]
      refine Seq.pass at5 rfl rfl ?_
      refine Seq.pass at6 rfl rfl ?_
      refine Seq.rd0 at7 rfl rfl (O.pickF (v := .bool _) rfl rfl) ?_
      refine Seq.nil ?_
      refine hK18 ?_
      refine Cd.condF rfl ?_
      refine Cd.skip ?_
      refine hK17 ?_
      refine Cd.seq (fun K34 hK34 => ?_)
      refine Cd.region [0, 1] rfl ?_
      refine Seq.rd0 at0 rfl rfl (O.field fo_205_0 rfl) ?_
      refine Seq.rd1 at1 rfl rfl (O.load kd_3 rfl (SAct_op _)) Rd.head ?_
      refine Seq.nil ?_
      refine hK34 ?_
      refine Cd.block ?_
      refine Cd.seq (fun K35 hK35 => ?_)
      refine Cd.region [0, 1] rfl ?_
      refine Seq.rd0 at0 rfl rfl (O.eqI rfl rfl) ?_
      refine Seq.rd0 at1 rfl rfl (O.assign (v := .bool _) rfl) ?_
      refine Seq.nil ?_
      refine hK35 ?_
      refine Cd.if (xs[i].op = 0) rfl (fun t36 => ?_) (fun t36 => ?_)
      · skip
        refine Cd.seq (fun K37 hK37 => ?_)
        refine Cd.region [0, 1, 2, 3] rfl ?_
        refine Seq.rd0 at0 rfl rfl (O.move (v := .pointer _) (by exact s5)) ?_
        refine Seq.op at1 rfl (Op.callF rfl hb_62 (Fn.perm (C_So_Open (R := ((b16, _) :: []) ++ L) hS1) (bring (pre := ((b16, _) :: [])) (Ls := Ls1) (R := L))) rfl ?_)
        rintro _ _ ⟨ys, Lo, hpy, hoy, hoi, rfl⟩
        obtain ⟨av9, cap9, rfl⟩ := OwnSl.form hoi
        have hyl : ys.length = xl1.length := by rw [hpy.length_eq, List.length_map]
        refine Ent.sub ?_ (sub_app (G := Lo) (.refl _))
        refine Ent.perm ?_ (bring (Ls := Ls1) (pre := ((b16, _) :: [])) (R := L)).symm
        refine Seq.rd0 at2 rfl rfl (O.lenS ds_72 rfl) ?_
        refine Seq.rd0 at3 rfl rfl (O.lss rfl rfl) ?_
        refine Seq.nil ?_
        refine hK37 ?_
        refine Cd.if ((ys.length : Int) < 50) rfl (fun t38 => ?_) (fun t38 => ?_)
        · skip
          refine Cd.region [0, 1] rfl ?_
          refine Seq.rd0 at0 rfl rfl (O.move (v := .pointer _) (by exact s5)) ?_
          have hib : (Lit.int .i64 (bg1 + 1)).wf = true := wfI (by omega) (by omega)
          refine Seq.op at1 rfl (Op.callF rfl hb_53 (Fn.perm (C_So_Begin (R := ((b16, _) :: []) ++ L) (ti := ⟨bg1 + 1, hib⟩) hS1 rfl (by omega) (by omega)) (bring (pre := ((b16, _) :: [])) (Ls := Ls1) (R := L))) rfl ?_)
          rintro _ _ ⟨rfl, xbLsB, LsB, hSB, rfl⟩
          refine Ent.perm ?_ (bring (Ls := LsB) (pre := ((b16, _) :: [])) (R := L)).symm
          refine Seq.nil ?_
          refine hK13 ?_
          refine Cd.region [0, 1, 2] rfl ?_
          refine Seq.rd0 at0 rfl rfl (O.move (v := .int .i64 _) (by exact s8)) ?_
          refine Seq.rd0 at1 rfl rfl (O.add rfl rfl (by omega) (by omega)) ?_
          refine Seq.rd0 at2 rfl rfl (O.assign (v := .int .i64 _) rfl) ?_
          refine Seq.nil ?_
          refine Ent.drop ?_
          exact hK9 _ (by omega) ⟨i + 1, l1, (aput xl1 ⟨bg1 + 1, hib⟩ (xbLsB, (⟨la1, 0⟩, []))), (bg1 + 1), la1, LsB, rfl, (by exact s5), (by exact s6), (by exact s7), rfl, rfl, by omega, hSB, by exact Moves.begin xbLsB hM rfl (by simp only; omega), by have := aput_le (⟨bg1 + 1, hib⟩ : I64) (xbLsB, ((⟨la1, 0⟩ : Stamp), ([] : List (Key × Write)))) xl1; omega, by omega, by omega⟩
        · skip
          refine Cd.skip ?_
          refine hK13 ?_
          refine Cd.region [0, 1, 2] rfl ?_
          refine Seq.rd0 at0 rfl rfl (O.move (v := .int .i64 _) (by exact s8)) ?_
          refine Seq.rd0 at1 rfl rfl (O.add rfl rfl (by omega) (by omega)) ?_
          refine Seq.rd0 at2 rfl rfl (O.assign (v := .int .i64 _) rfl) ?_
          refine Seq.nil ?_
          refine Ent.drop ?_
          exact hK9 _ (by omega) ⟨i + 1, l1, xl1, bg1, la1, Ls1, rfl, (by exact s5), (by exact s6), (by exact s7), rfl, rfl, by omega, hS1, hM, hx1, by omega, by omega⟩
      · skip
        refine Cd.seq (fun K39 hK39 => ?_)
        refine Cd.region [0, 1] rfl ?_
        refine Seq.rd0 at0 rfl rfl (O.eqI rfl rfl) ?_
        refine Seq.rd0 at1 rfl rfl (O.assign (v := .bool _) rfl) ?_
        refine Seq.nil ?_
        refine hK39 ?_
        refine Cd.if (xs[i].op = 3) rfl (fun t40 => ?_) (fun t40 => ?_)
        · skip
          refine Cd.region [0, 1, 2, 3, 4, 5] rfl ?_
          refine Seq.rd0 at0 rfl rfl (O.move (v := .pointer _) (by exact s5)) ?_
          refine Seq.rd0 at1 rfl rfl (O.field fo_205_2 rfl) ?_
          refine Seq.rd1 at2 rfl rfl (O.load kd_2 rfl (SAct_id _)) Rd.head ?_
          refine Seq.rd0 at3 rfl rfl (O.field fo_205_3 rfl) ?_
          refine Seq.rd1 at4 rfl rfl (O.loadA kd_47 rfl (Nat.le_of_ble_eq_true rfl) (SAct_w _)) Rd.head ?_
          have hsk : ¬ ((⟨xs[i].id, hwf⟩ : I64).1 = nt ∧ 0 < nt) := by first | assumption | (rintro ⟨h1, h2⟩; first | exact absurd h1 (by assumption) | exact absurd h2 (by assumption) | omega)
          refine Seq.op at5 rfl (Op.callF rfl hb_54 (Fn.perm (C_So_Put (R := ((b16, _) :: []) ++ L) (ti := (⟨xs[i].id, hwf⟩ : I64)) (x := xs[i].w) hS1) (bring (pre := ((b16, _) :: [])) (Ls := Ls1) (R := L))) rfl ?_)
          rintro _ _ ⟨rfl, LsP, hSP, rfl⟩
          refine Ent.perm ?_ (bring (Ls := LsP) (pre := ((b16, _) :: [])) (R := L)).symm
          refine Seq.nil ?_
          refine hK13 ?_
          refine Cd.region [0, 1, 2] rfl ?_
          refine Seq.rd0 at0 rfl rfl (O.move (v := .int .i64 _) (by exact s8)) ?_
          refine Seq.rd0 at1 rfl rfl (O.add rfl rfl (by omega) (by omega)) ?_
          refine Seq.rd0 at2 rfl rfl (O.assign (v := .int .i64 _) rfl) ?_
          refine Seq.nil ?_
          refine Ent.drop ?_
          exact hK9 _ (by omega) ⟨i + 1, l1, (afterS xl1 (⟨xs[i].id, hwf⟩ : I64) xs[i].w), bg1, la1, LsP, rfl, (by exact s5), (by exact s6), (by exact s7), rfl, rfl, by omega, hSP, by exact Moves.put _ hM (by assumption), by rw [afterS_keys.2]; exact hx1, by omega, by omega⟩
        · skip
          refine Cd.seq (fun K41 hK41 => ?_)
          refine Cd.region [0, 1] rfl ?_
          refine Seq.rd0 at0 rfl rfl (O.eqI rfl rfl) ?_
          refine Seq.rd0 at1 rfl rfl (O.assign (v := .bool _) rfl) ?_
          refine Seq.nil ?_
          refine hK41 ?_
          refine Cd.if (xs[i].op = 4) rfl (fun t42 => ?_) (fun t42 => ?_)
          · skip
            refine Cd.region [0, 1, 2, 3] rfl ?_
            refine Seq.rd0 at0 rfl rfl (O.move (v := .pointer _) (by exact s5)) ?_
            refine Seq.rd0 at1 rfl rfl (O.field fo_205_2 rfl) ?_
            refine Seq.rd1 at2 rfl rfl (O.load kd_2 rfl (SAct_id _)) Rd.head ?_
            have hsk : ¬ ((⟨xs[i].id, hwf⟩ : I64).1 = nt ∧ 0 < nt) := by first | assumption | (rintro ⟨h1, h2⟩; first | exact absurd h1 (by assumption) | exact absurd h2 (by assumption) | omega)
            refine Seq.op at3 rfl (Op.callF rfl hb_56 (Fn.perm (C_So_Commit (R := ((b16, _) :: []) ++ L) (ti := (⟨xs[i].id, hwf⟩ : I64)) hS1 (by omega)) (bring (pre := ((b16, _) :: [])) (Ls := Ls1) (R := L))) rfl ?_)
            rintro _ _ ⟨rC, eC, lC, laC, LsC, rfl, hSC, hcomC, rfl⟩
            refine Ent.perm ?_ (bring (Ls := LsC) (pre := ((b16, _) :: [])) (R := L)).symm
            refine Seq.nil ?_
            refine hK13 ?_
            refine Cd.region [0, 1, 2] rfl ?_
            refine Seq.rd0 at0 rfl rfl (O.move (v := .int .i64 _) (by exact s8)) ?_
            refine Seq.rd0 at1 rfl rfl (O.add rfl rfl (by omega) (by omega)) ?_
            refine Seq.rd0 at2 rfl rfl (O.assign (v := .int .i64 _) rfl) ?_
            refine Seq.nil ?_
            refine Ent.drop ?_
            exact hK9 _ (by omega) ⟨i + 1, lC, (adel xl1 (⟨xs[i].id, hwf⟩ : I64)), bg1, laC, LsC, rfl, (by exact s5), (by exact s6), (by exact s7), rfl, rfl, by omega, hSC, by exact Moves.commit hM (by assumption) hcomC, Nat.le_trans (adel_sub _ _).length_le hx1, by omega, by have := com_la hcomC; omega⟩
          · skip
            refine Cd.seq (fun K43 hK43 => ?_)
            refine Cd.region [0, 1] rfl ?_
            refine Seq.rd0 at0 rfl rfl (O.eqI rfl rfl) ?_
            refine Seq.rd0 at1 rfl rfl (O.assign (v := .bool _) rfl) ?_
            refine Seq.nil ?_
            refine hK43 ?_
            refine Cd.if (xs[i].op = 5) rfl (fun t44 => ?_) (fun t44 => ?_)
            · skip
              refine Cd.region [0, 1, 2, 3] rfl ?_
              refine Seq.rd0 at0 rfl rfl (O.move (v := .pointer _) (by exact s5)) ?_
              refine Seq.rd0 at1 rfl rfl (O.field fo_205_2 rfl) ?_
              refine Seq.rd1 at2 rfl rfl (O.load kd_2 rfl (SAct_id _)) Rd.head ?_
              have hsk : ¬ ((⟨xs[i].id, hwf⟩ : I64).1 = nt ∧ 0 < nt) := by first | assumption | (rintro ⟨h1, h2⟩; first | exact absurd h1 (by assumption) | exact absurd h2 (by assumption) | omega)
              refine Seq.op at3 rfl (Op.callF rfl hb_130 (Fn.perm (C_So_Abort (R := ((b16, _) :: []) ++ L) (ti := (⟨xs[i].id, hwf⟩ : I64)) hS1) (bring (pre := ((b16, _) :: [])) (Ls := Ls1) (R := L))) rfl ?_)
              rintro _ _ ⟨rfl, LsA, hSA, rfl⟩
              refine Ent.perm ?_ (bring (Ls := LsA) (pre := ((b16, _) :: [])) (R := L)).symm
              refine Seq.nil ?_
              refine hK13 ?_
              refine Cd.region [0, 1, 2] rfl ?_
              refine Seq.rd0 at0 rfl rfl (O.move (v := .int .i64 _) (by exact s8)) ?_
              refine Seq.rd0 at1 rfl rfl (O.add rfl rfl (by omega) (by omega)) ?_
              refine Seq.rd0 at2 rfl rfl (O.assign (v := .int .i64 _) rfl) ?_
              refine Seq.nil ?_
              refine Ent.drop ?_
              exact hK9 _ (by omega) ⟨i + 1, l1, (adel xl1 (⟨xs[i].id, hwf⟩ : I64)), bg1, la1, LsA, rfl, (by exact s5), (by exact s6), (by exact s7), rfl, rfl, by omega, hSA, by exact Moves.abort hM (by assumption), Nat.le_trans (adel_sub _ _).length_le hx1, by omega, by omega⟩
            · skip
              refine Cd.seq (fun K45 hK45 => ?_)
              refine Cd.region [0, 1] rfl ?_
              refine Seq.rd0 at0 rfl rfl (O.eqI rfl rfl) ?_
              refine Seq.rd0 at1 rfl rfl (O.assign (v := .bool _) rfl) ?_
              refine Seq.nil ?_
              refine hK45 ?_
              refine Cd.if (xs[i].op = 6) rfl (fun t46 => ?_) (fun t46 => ?_)
              · skip
                refine Cd.region [0, 1] rfl ?_
                refine Seq.rd0 at0 rfl rfl (O.move (v := .pointer _) (by exact s5)) ?_
                refine Seq.op at1 rfl (Op.callF rfl hb_60 (Fn.perm (C_So_Trim (R := ((b16, _) :: []) ++ L) hS1) (bring (pre := ((b16, _) :: [])) (Ls := Ls1) (R := L))) rfl ?_)
                rintro _ _ ⟨s0, lt, LsT, hls, rfl, hST, htr, rfl⟩
                refine Ent.perm ?_ (bring (Ls := LsT) (pre := ((b16, _) :: [])) (R := L)).symm
                refine Seq.nil ?_
                refine hK13 ?_
                refine Cd.region [0, 1, 2] rfl ?_
                refine Seq.rd0 at0 rfl rfl (O.move (v := .int .i64 _) (by exact s8)) ?_
                refine Seq.rd0 at1 rfl rfl (O.add rfl rfl (by omega) (by omega)) ?_
                refine Seq.rd0 at2 rfl rfl (O.assign (v := .int .i64 _) rfl) ?_
                refine Seq.nil ?_
                refine Ent.drop ?_
                exact hK9 _ (by omega) ⟨i + 1, lt, xl1, bg1, la1, LsT, rfl, (by exact s5), (by exact s6), (by exact s7), rfl, rfl, by omega, hST, by exact Moves.trim hM hls htr, hx1, by omega, by omega⟩
              · skip
                refine Cd.skip ?_
                refine hK13 ?_
                refine Cd.region [0, 1, 2] rfl ?_
                refine Seq.rd0 at0 rfl rfl (O.move (v := .int .i64 _) (by exact s8)) ?_
                refine Seq.rd0 at1 rfl rfl (O.add rfl rfl (by omega) (by omega)) ?_
                refine Seq.rd0 at2 rfl rfl (O.assign (v := .int .i64 _) rfl) ?_
                refine Seq.nil ?_
                refine Ent.drop ?_
                exact hK9 _ (by omega) ⟨i + 1, l1, xl1, bg1, la1, Ls1, rfl, (by exact s5), (by exact s6), (by exact s7), rfl, rfl, by omega, hS1, hM, hx1, by omega, by omega⟩
  · skip
    refine Cd.exit ?_
    exact hR _ _ (Res.zero rfl) ⟨l1, xl1, bg1, la1, Ls1, hS1, hM, hx1, by omega, by omega, rfl⟩ (.refl _)

end Go.X

namespace Go.X
open Go.Proofs

/-! ## the document's 'may a key be' -/
set_option maxRecDepth 100000 in
set_option maxHeartbeats 2000000 in
theorem C_law23_k {c : Cx} {L : List Pt} {l : List UInt8} (hok : okT l = true) : Fn Tryz.prog 57 #[.string ⟨l.toArray⟩] c L (fun v L' => v = .agg (Key_enc (padK l)) ∧ L' = L) := by
  refine Fn.enter Tryz.func57 rfl 11 rfl rfl (fun R hR => ?_)
  refine Cd.seq (fun K1 hK1 => ?_)
  refine Cd.region [0] rfl ?_
  refine Seq.op at0 rfl (Op.new rfl (O.alloc zo_45 (cs := (Key_enc Key.zero)) rfl) ?_)
  intro b2 hb2
  refine Seq.nil ?_
  refine hK1 ?_
  refine Cd.seq (fun K3 hK3 => ?_)
  refine Cd.region [0, 1, 2, 3, 4, 5, 6, 7] rfl ?_
  refine Seq.rd0 at0 rfl rfl (O.move (v := .string _) rfl) ?_
  refine Seq.op at1 rfl (Op.callF rfl hb_103 (C_ref_Of (l := l) hok) rfl ?_)
  rintro _ _ ⟨rfl, rfl⟩
  refine Seq.rd0 at2 rfl rfl (O.move (v := .tuple _) rfl) ?_
  refine Seq.rd0 at3 rfl rfl (O.ext rfl r2_0) ?_
  refine Seq.rd0 at4 rfl rfl (O.ext rfl r2_1) ?_
  refine Seq.op at5 rfl (Op.new rfl (O.alloc zo_45 (cs := (Key_enc Key.zero)) rfl) ?_)
  intro b4 hb4
  refine Seq.op at6 rfl (Op.set0 rfl (O.store kd_45 rfl (v := .agg _) rfl (Key_size _) (Key_room (Key_size _)) (Key_one _) (Key_put _ (Key_size _))) ?_)
  refine Seq.rd0 at7 rfl rfl (O.assign (v := .bool _) rfl) ?_
  refine Seq.nil ?_
  refine hK3 ?_
  refine Cd.seq (fun K5 hK5 => ?_)
  refine Cd.region [0, 1] rfl ?_
  refine Seq.rd1 at0 rfl rfl (O.loadA kd_45 rfl (Nat.le_of_ble_eq_true rfl) (Key_all _)) Rd.head ?_
  refine Seq.op at1 rfl (Op.set1 rfl (O.store kd_45 rfl (v := .agg _) rfl (Key_size _) (Key_room (Key_size _)) (Key_one _) (Key_put _ (Key_size _))) ?_)
  refine Seq.nil ?_
  refine hK5 ?_
  refine Cd.ret ?_
  exact hR _ _ (Res.cell (out := #[]) rfl kd_45 rfl  Rd.head.cons rfl) ⟨rfl, rfl⟩ (.cons _ (.cons _ (.refl _)))

end Go.X

namespace Go.X
open Go.Proofs
theorem ds_97 : isDesc Tryz.prog 97 = 4 := by kernel_rfl
theorem hb_51 : hasBody Tryz.prog 51 = true := by kernel_rfl
theorem hb_57 : hasBody Tryz.prog 57 = true := by kernel_rfl
theorem hb_63 : hasBody Tryz.prog 63 = true := by kernel_rfl
/-! ## two that put one key -/
def i2 : I64 := ⟨2, by decide⟩
def kX : Key := padK [120]
theorem okX : okT [120] = true := by rfl
def wX1 : Write := ⟨kX, ⟨#[49]⟩, false⟩
def wX2 : Write := ⟨kX, ⟨#[50]⟩, false⟩
def vX1 : Version := ⟨⟨1, 0⟩, ⟨#[49]⟩, false⟩
def s00 : Stamp := ⟨0, 0⟩
theorem aw23_1 {xa xb : Nat} : aput [(i1, ((xa, (s00, [])) : TX))] i2 (xb, (s00, [])) = [(i1, (xa, (s00, []))), (i2, (xb, (s00, [])))] := by kernel_rfl
theorem aw23_2 {xa xb : Nat} : putS [(i1, ((xa, (s00, [])) : TX)), (i2, (xb, (s00, [])))] i1 wX1 = 0 ∧ afterS [(i1, ((xa, (s00, [])) : TX)), (i2, (xb, (s00, [])))] i1 wX1 = [(i1, (xa, (s00, [(kX, wX1)]))), (i2, (xb, (s00, [])))] := ⟨by kernel_rfl, by kernel_rfl⟩
theorem aw23_3 {xa xb : Nat} : putS [(i1, ((xa, (s00, [(kX, wX1)])) : TX)), (i2, (xb, (s00, [])))] i2 wX2 = 0 ∧ afterS [(i1, ((xa, (s00, [(kX, wX1)])) : TX)), (i2, (xb, (s00, [])))] i2 wX2 = [(i1, (xa, (s00, [(kX, wX1)]))), (i2, (xb, (s00, [(kX, wX2)])))] := ⟨by kernel_rfl, by kernel_rfl⟩
theorem aw23_4 {xa xb : Nat} : alook [(i1, ((xa, (s00, [(kX, wX1)])) : TX)), (i2, (xb, (s00, [(kX, wX2)])))] i1 = some (xa, (s00, [(kX, wX1)])) ∧ adel [(i1, ((xa, (s00, [(kX, wX1)])) : TX)), (i2, (xb, (s00, [(kX, wX2)])))] i1 = [(i2, (xb, (s00, [(kX, wX2)])))] := ⟨by kernel_rfl, by kernel_rfl⟩
theorem aw23_5 {xb : Nat} : alook [(i2, ((xb, (s00, [(kX, wX2)])) : TX))] i2 = some (xb, (s00, [(kX, wX2)])) ∧ adel [(i2, ((xb, (s00, [(kX, wX2)])) : TX))] i2 = [] := ⟨by kernel_rfl, by kernel_rfl⟩
theorem ComX.one {l l' : List (Key × CV)} {la la' e : Int} {s r : Stamp} {k : Key} {w : Write} (h : ComX l la s [(k, w)] r e l' la') (hn : conK l s k = false) (ha : applyE l ⟨la + 1, 0⟩ [w] = 0) :
    r = ⟨la + 1, 0⟩ ∧ e = 0 ∧ la' = la + 1 ∧ ∃ cb, l' = aput l w.key (cb, afterPut (getS l w.key) ⟨⟨la + 1, 0⟩, w.val, w.gone⟩) := by
  rcases h with ⟨h, _⟩ | ⟨_, ⟨q, hq, h⟩, _⟩ | ⟨_, _, ys, hp, _, he, _, h0⟩
  · cases h
  · rw [List.mem_singleton.1 hq, hn] at h; cases h
  · have hy : ys = [w] := List.perm_singleton.1 (by simpa using hp)
    subst hy
    rw [ha] at he
    obtain ⟨h1, h2, h3⟩ := h0 he
    exact ⟨h1, he, h2, h3.one⟩
theorem ComX.con {l l' : List (Key × CV)} {la la' e : Int} {s r : Stamp} {k : Key} {w : Write} {ws : List (Key × Write)} (h : ComX l la s ws r e l' la') (hm : (k, w) ∈ ws) (hn : conK l s k = true) : r = .zero ∧ e = 9 ∧ l' = l ∧ la' = la := by
  rcases h with ⟨h, _⟩ | ⟨_, _, h⟩ | ⟨_, h, _⟩
  · subst h; cases hm
  · exact h
  · have := h _ hm; rw [hn] at this; cases this
theorem ComX.none {l l' : List (Key × CV)} {la la' e : Int} {s r : Stamp} (h : ComX l la s [] r e l' la') : r = ⟨la, 0⟩ ∧ e = 0 ∧ l' = l ∧ la' = la := by
  rcases h with ⟨_, h⟩ | ⟨h, _⟩ | ⟨h, _⟩
  · exact h
  · exact absurd rfl h
  · exact absurd rfl h
theorem aw23_6 : conK [] s00 kX = false ∧ applyE [] ⟨0 + 1, 0⟩ [wX1] = 0 := ⟨by kernel_rfl, by kernel_rfl⟩
theorem aw23_7 {cb : Nat} : aput [] wX1.key (cb, afterPut (getS [] wX1.key) ⟨⟨0 + 1, 0⟩, wX1.val, wX1.gone⟩) = [(kX, ((cb, [vX1]) : CV))] := by kernel_rfl
theorem aw23_8 {cb : Nat} : conK [(kX, ((cb, [vX1]) : CV))] s00 kX = true := by kernel_rfl

set_option maxRecDepth 100000 in
set_option maxHeartbeats 2000000 in
theorem C_awake23 {c : Cx} {L : List Pt}  : Fn Tryz.prog 50 #[] c L (fun v L' => v = .bool true ∧ L' = L) := by
  refine Fn.enter Tryz.func50 rfl 69 rfl rfl (fun R hR => ?_)
  refine Cd.seq (fun K1 hK1 => ?_)
  refine Cd.region [0] rfl ?_
  refine Seq.rd0 at0 rfl rfl (O.assign (v := .bool _) rfl) ?_
  refine Seq.nil ?_
  refine hK1 ?_
  refine Cd.seq (fun K2 hK2 => ?_)
  refine Cd.region [0, 1] rfl ?_
  refine Seq.op at0 rfl (Op.callF rfl hb_51 C_solo_New2 rfl ?_)
  rintro _ _ ⟨p, Ls0, rfl, hS0, rfl⟩
  refine Seq.rd0 at1 rfl rfl (O.assign (v := .pointer _) rfl) ?_
  refine Seq.nil ?_
  refine hK2 ?_
  refine Cd.seq (fun K3 hK3 => ?_)
  refine Cd.seq (fun K4 hK4 => ?_)
  refine Cd.region [0, 1] rfl ?_
  refine Seq.rd0 at0 rfl rfl (O.move (v := .pointer _) rfl) ?_
  refine Seq.rd0 at1 rfl rfl (O.eqNil ds_97 rfl rfl) ?_
  refine Seq.nil ?_
  refine hK4 ?_
  refine Cd.condF rfl ?_
  refine Cd.skip ?_
  refine hK3 ?_
  refine Cd.seq (fun K5 hK5 => ?_)
  refine Cd.region [0, 1, 2, 3, 4, 5, 6] rfl ?_
  refine Seq.rd0 at0 rfl rfl (O.move (v := .pointer _) rfl) ?_
  refine Seq.op at1 rfl (Op.callF rfl hb_53 (Fn.perm (C_So_Begin (R := ([]) ++ L) (ti := i1) hS0 rfl (by decide) (by decide)) (bring (pre := ([])) (Ls := Ls0) (R := L))) rfl ?_)
  rintro _ _ ⟨rfl, xa, Ls1, hS1, rfl⟩
  have hS1 : SoOwn p [] [(i1, (xa, (s00, [])))] 1 0 Ls1 := hS1
  rw [show (0 : Int) + 1 = 1 from rfl]
  refine Ent.perm ?_ (bring (Ls := Ls1) (pre := ([])) (R := L)).symm
  refine Seq.rd0 at2 rfl rfl (O.move (v := .tuple _) rfl) ?_
  refine Seq.rd0 at3 rfl rfl (O.ext rfl r2_0) ?_
  refine Seq.rd0 at4 rfl rfl (O.ext rfl r2_1) ?_
  refine Seq.rd0 at5 rfl rfl (O.assign (v := .int .i64 _) rfl) ?_
  refine Seq.rd0 at6 rfl rfl (O.assign (v := .int .i64 _) rfl) ?_
  refine Seq.nil ?_
  refine hK5 ?_
  refine Cd.seq (fun K6 hK6 => ?_)
  refine Cd.region [0, 1, 2, 3, 4, 5, 6] rfl ?_
  refine Seq.rd0 at0 rfl rfl (O.move (v := .pointer _) rfl) ?_
  refine Seq.op at1 rfl (Op.callF rfl hb_53 (Fn.perm (C_So_Begin (R := ([]) ++ L) (ti := i2) hS1 rfl (by simp) (by decide)) (bring (pre := ([])) (Ls := Ls1) (R := L))) rfl ?_)
  rintro _ _ ⟨rfl, xb, Ls2, hS2, rfl⟩
  rw [show (⟨0, 0⟩ : Stamp) = s00 from rfl, aw23_1] at hS2
  have hS2 : SoOwn p [] [(i1, (xa, (s00, []))), (i2, (xb, (s00, [])))] 2 0 Ls2 := hS2
  rw [show (1 : Int) + 1 = 2 from rfl]
  refine Ent.perm ?_ (bring (Ls := Ls2) (pre := ([])) (R := L)).symm
  refine Seq.rd0 at2 rfl rfl (O.move (v := .tuple _) rfl) ?_
  refine Seq.rd0 at3 rfl rfl (O.ext rfl r2_0) ?_
  refine Seq.rd0 at4 rfl rfl (O.ext rfl r2_1) ?_
  refine Seq.rd0 at5 rfl rfl (O.assign (v := .int .i64 _) rfl) ?_
  refine Seq.rd0 at6 rfl rfl (O.assign (v := .int .i64 _) rfl) ?_
  refine Seq.nil ?_
  refine hK6 ?_
  refine Cd.seq (fun K7 hK7 => ?_)
  refine Cd.region [0, 1, 2, 3, 4] rfl ?_
  refine Seq.rd0 at0 rfl rfl (O.move (v := .pointer _) rfl) ?_
  refine Seq.rd0 at1 rfl rfl (O.move (v := .int .i64 _) rfl) ?_
  refine Seq.op at2 rfl (Op.callF rfl hb_57 (C_law23_k (l := [120]) okX) rfl ?_)
  rintro _ _ ⟨rfl, rfl⟩
  refine Seq.rd0 at3 rfl rfl (O.build rfl (cs := (Write_enc (⟨kX, (⟨#[49]⟩ : ByteArray), false⟩ : Write))) (by kernel_rfl)) ?_
  refine Seq.op at4 rfl (Op.callF rfl hb_54 (Fn.perm (C_So_Put (R := ([]) ++ L) (ti := i1) (x := wX1) hS2) (bring (pre := ([])) (Ls := Ls2) (R := L))) rfl ?_)
  rintro _ _ ⟨rfl, Ls3, hS3, rfl⟩
  rw [aw23_2.2] at hS3
  rw [aw23_2.1]
  refine Ent.perm ?_ (bring (Ls := Ls3) (pre := ([])) (R := L)).symm
  refine Seq.nil ?_
  refine hK7 ?_
  refine Cd.seq (fun K8 hK8 => ?_)
  refine Cd.region [0, 1, 2, 3, 4] rfl ?_
  refine Seq.rd0 at0 rfl rfl (O.move (v := .pointer _) rfl) ?_
  refine Seq.rd0 at1 rfl rfl (O.move (v := .int .i64 _) rfl) ?_
  refine Seq.op at2 rfl (Op.callF rfl hb_57 (C_law23_k (l := [120]) okX) rfl ?_)
  rintro _ _ ⟨rfl, rfl⟩
  refine Seq.rd0 at3 rfl rfl (O.build rfl (cs := (Write_enc (⟨kX, (⟨#[50]⟩ : ByteArray), false⟩ : Write))) (by kernel_rfl)) ?_
  refine Seq.op at4 rfl (Op.callF rfl hb_54 (Fn.perm (C_So_Put (R := ([]) ++ L) (ti := i2) (x := wX2) hS3) (bring (pre := ([])) (Ls := Ls3) (R := L))) rfl ?_)
  rintro _ _ ⟨rfl, Ls4, hS4, rfl⟩
  rw [aw23_3.2] at hS4
  rw [aw23_3.1]
  refine Ent.perm ?_ (bring (Ls := Ls4) (pre := ([])) (R := L)).symm
  refine Seq.nil ?_
  refine hK8 ?_
  refine Cd.seq (fun K9 hK9 => ?_)
  refine Cd.region [0, 1, 2, 3, 4, 5, 6, 7, 8] rfl ?_
  refine Seq.rd0 at0 rfl rfl (O.move (v := .pointer _) rfl) ?_
  refine Seq.rd0 at1 rfl rfl (O.move (v := .int .i64 _) rfl) ?_
  refine Seq.op at2 rfl (Op.callF rfl hb_56 (Fn.perm (C_So_Commit (R := ([]) ++ L) (ti := i1) hS4 (by decide)) (bring (pre := ([])) (Ls := Ls4) (R := L))) rfl ?_)
  rintro _ _ ⟨r1, e1, l1, la1, Ls5, rfl, hS5, hc1, rfl⟩
  rw [aw23_4.1] at hc1
  rw [aw23_4.2] at hS5
  obtain ⟨rfl, rfl, rfl, cb, rfl⟩ := ComX.one hc1 aw23_6.1 aw23_6.2
  rw [aw23_7] at hS5
  have hS5 : SoOwn p [(kX, (cb, [vX1]))] [(i2, (xb, (s00, [(kX, wX2)])))] 2 1 Ls5 := hS5
  rw [show (0 : Int) + 1 = 1 from rfl]
  refine Ent.perm ?_ (bring (Ls := Ls5) (pre := ([])) (R := L)).symm
  refine Seq.rd0 at3 rfl rfl (O.move (v := .tuple _) rfl) ?_
  refine Seq.rd0 at4 rfl rfl (O.ext rfl r2_0) ?_
  refine Seq.rd0 at5 rfl rfl (O.ext rfl r2_1) ?_
  refine Seq.op at6 rfl (Op.new rfl (O.alloc zo_24 (cs := (Stamp_enc Stamp.zero)) rfl) ?_)
  intro b10 hb10
  refine Seq.op at7 rfl (Op.set0 rfl (O.store kd_24 rfl (v := .agg _) rfl (Stamp_size _) (Stamp_room (Stamp_size _)) (Stamp_one _) (Stamp_put _ (Stamp_size _))) ?_)
  refine Seq.rd0 at8 rfl rfl (O.assign (v := .int .i64 _) rfl) ?_
  refine Seq.nil ?_
  refine hK9 ?_
  refine Cd.seq (fun K11 hK11 => ?_)
  refine Cd.region [0, 1, 2, 3, 4, 5, 6, 7, 8] rfl ?_
  refine Seq.rd0 at0 rfl rfl (O.move (v := .pointer _) rfl) ?_
  refine Seq.rd0 at1 rfl rfl (O.move (v := .int .i64 _) rfl) ?_
  refine Seq.op at2 rfl (Op.callF rfl hb_56 (Fn.perm (C_So_Commit (R := ((b10, _) :: []) ++ L) (ti := i2) hS5 (by decide)) (bring (pre := ((b10, _) :: [])) (Ls := Ls5) (R := L))) rfl ?_)
  rintro _ _ ⟨r2, e2, l2, la2, Ls6, rfl, hS6, hc2, rfl⟩
  rw [aw23_5.1] at hc2
  rw [aw23_5.2] at hS6
  obtain ⟨rfl, rfl, rfl, rfl⟩ := ComX.con hc2 (List.mem_cons_self) aw23_8
  refine Ent.perm ?_ (bring (Ls := Ls6) (pre := ((b10, _) :: [])) (R := L)).symm
  refine Seq.rd0 at3 rfl rfl (O.move (v := .tuple _) rfl) ?_
  refine Seq.rd0 at4 rfl rfl (O.ext rfl r2_0) ?_
  refine Seq.rd0 at5 rfl rfl (O.ext rfl r2_1) ?_
  refine Seq.op at6 rfl (Op.new rfl (O.alloc zo_24 (cs := (Stamp_enc Stamp.zero)) rfl) ?_)
  intro b12 hb12
  refine Seq.op at7 rfl (Op.set0 rfl (O.store kd_24 rfl (v := .agg _) rfl (Stamp_size _) (Stamp_room (Stamp_size _)) (Stamp_one _) (Stamp_put _ (Stamp_size _))) ?_)
  refine Seq.rd0 at8 rfl rfl (O.assign (v := .int .i64 _) rfl) ?_
  refine Seq.nil ?_
  refine hK11 ?_
  refine Cd.seq (fun K13 hK13 => ?_)
  refine Cd.region [0, 1, 2, 3, 4, 5, 6, 7, 8, 9, 10, 11, 12, 13, 14, 15, 16, 17, 18, 19, 20, 21, 22, 23, 24] rfl ?_
  refine Seq.rd0 at0 rfl rfl (O.move (v := .int .i64 _) rfl) ?_
  refine Seq.rd0 at1 rfl rfl (O.eqI rfl rfl) ?_
  refine Seq.rd0 at2 rfl rfl (O.move (v := .bool _) rfl) ?_
  have t14 : (1 : Int) = 1 := rfl
  rw [decide_eq_true t14]
  refine Seq.rd0 at3 rfl rfl (O.move (v := .int .i64 _) rfl) ?_
  refine Seq.rd0 at4 rfl rfl (O.eqI rfl rfl) ?_
  refine Seq.rd0 at5 rfl rfl (O.pickT (v := .bool _) rfl rfl) ?_
  refine Seq.rd0 at6 rfl rfl (O.move (v := .bool _) rfl) ?_
  have t15 : (2 : Int) = 2 := rfl
  rw [decide_eq_true t15]
  refine Seq.rd0 at7 rfl rfl (O.move (v := .int .i64 _) rfl) ?_
  refine Seq.rd0 at8 rfl rfl (O.eqI rfl rfl) ?_
  refine Seq.rd0 at9 rfl rfl (O.pickT (v := .bool _) rfl rfl) ?_
  refine Seq.rd0 at10 rfl rfl (O.move (v := .bool _) rfl) ?_
  have t16 : (0 : Int) = 0 := rfl
  rw [decide_eq_true t16]
  refine Seq.rd1 at11 rfl rfl (O.loadA kd_24 rfl (Nat.le_of_ble_eq_true rfl) (Stamp_all _)) Rd.head.cons ?_
  refine Seq.rd0 at12 rfl rfl (O.build rfl (cs := (Stamp_enc (⟨1, 0⟩ : Stamp))) (by kernel_rfl)) ?_
  refine Seq.rd0 at13 rfl rfl (eqStamp rfl rfl) ?_
  refine Seq.rd0 at14 rfl rfl (O.pickT (v := .bool _) rfl rfl) ?_
  refine Seq.rd0 at15 rfl rfl (O.move (v := .bool _) rfl) ?_
  have t17 : (⟨1, 0⟩ : Stamp) = (⟨1, 0⟩ : Stamp) := rfl
  rw [decide_eq_true t17]
  refine Seq.rd0 at16 rfl rfl (O.move (v := .int .i64 _) rfl) ?_
  refine Seq.rd0 at17 rfl rfl (O.eqI rfl rfl) ?_
  refine Seq.rd0 at18 rfl rfl (O.pickT (v := .bool _) rfl rfl) ?_
  refine Seq.rd0 at19 rfl rfl (O.move (v := .bool _) rfl) ?_
  have t18 : (9 : Int) = 9 := rfl
  rw [decide_eq_true t18]
  refine Seq.rd0 at20 rfl rfl (O.move (v := .pointer _) rfl) ?_
  refine Seq.op at21 rfl (Op.callF rfl hb_63 (Fn.perm (C_So_Last (R := ((b12, _) :: (b10, _) :: []) ++ L) hS6) (bring (pre := ((b12, _) :: (b10, _) :: [])) (Ls := Ls6) (R := L))) rfl ?_)
  rintro _ _ ⟨rfl, rfl⟩
  refine Ent.perm ?_ (bring (Ls := Ls6) (pre := ((b12, _) :: (b10, _) :: [])) (R := L)).symm
  refine Seq.rd0 at22 rfl rfl (O.eqI rfl rfl) ?_
  refine Seq.rd0 at23 rfl rfl (O.pickT (v := .bool _) rfl rfl) ?_
  refine Seq.rd0 at24 rfl rfl (O.assign (v := .bool _) rfl) ?_
  refine Seq.nil ?_
  refine hK13 ?_
  refine Cd.ret ?_
  exact hR _ _ (Res.one (v := .bool _) rfl rfl) ⟨rfl, rfl⟩ (.cons _ (.cons _ (sub_app (G := Ls6) (.refl _))))

end Go.X

/- Plain laws of solo: what two commits answer. -/
namespace Go.X
/-! ## versions behind a commit -/
theorem afterPut_mem {vs : List Version} {x v : Version} (h : v ∈ afterPut vs x) : v = x ∨ v ∈ vs := by
  unfold afterPut at h
  split at h
  · exact putV_mem.1 h
  · exact .inr h
theorem AppS.mem {s : Stamp} {l : List (Key × CV)} {ws : List Write} {l' : List (Key × CV)} (h : AppS s l ws l') {k : Key} {v : Version} (hv : v ∈ getS l' k) : v.stamp = s ∨ v ∈ getS l k := by
  induction h with
  | nil => exact .inr hv
  | snoc h ih =>
    rw [getS_put] at hv
    split at hv
    · rename_i he; subst he
      rcases afterPut_mem hv with h | h
      · exact .inl (by rw [h])
      · exact ih h
    · exact ih hv
/-- the times of a store's versions are not above -/
def Top (l : List (Key × CV)) (la : Int) : Prop := ∀ k, ∀ v ∈ getS l k, ¬ (⟨la, 0⟩ : Stamp).lt v.stamp
theorem lt_time {a b : Int} (h : a < b) : (⟨a, 0⟩ : Stamp).lt ⟨b, 0⟩ := .inl h
theorem Stamp.le_lt {a b c : Stamp} (h : ¬ b.lt a) (k : b.lt c) : a.lt c := by
  rcases Stamp.lt_total a b with h1 | h1 | h1
  · exact Stamp.lt_trans h1 k
  · rw [h1]; exact k
  · exact absurd h1 h
theorem Top.com {l l' : List (Key × CV)} {la la' e : Int} {s r : Stamp} {ws : List (Key × Write)} (hT : Top l la) (h : ComX l la s ws r e l' la') : Top l' la' := by
  rcases h with ⟨_, _, _, rfl, rfl⟩ | ⟨_, _, _, _, rfl, rfl⟩ | ⟨_, _, ys, _, _, _, h9, h10⟩
  · exact hT
  · exact hT
  · by_cases he : e = 0
    · obtain ⟨_, rfl, hA⟩ := h10 he
      intro k v hv
      rcases hA.mem hv with h | h
      · rw [h]; exact Stamp.lt_irrefl _
      · intro h1
        exact hT k v h (Stamp.lt_trans (lt_time (by omega)) h1)
    · obtain ⟨_, rfl, rfl⟩ := h9 he
      exact hT
structure SInv (s : SoS) : Prop where
  top : Top s.l s.la
  sorted : ∀ k, Sorted (getS s.l k)
  nn : 0 ≤ s.la
  snap : ∀ q ∈ s.xl, ¬ (⟨s.la, 0⟩ : Stamp).lt q.2.2.1
theorem SInv.new : SInv ⟨[], [], 0, 0⟩ := ⟨fun k v hv => by simp [getS, alook] at hv, fun k => by simp only [getS, alook]; exact .nil, by decide, by simp⟩
theorem ComX.sorted {l l' : List (Key × CV)} {la la' e : Int} {s r : Stamp} {ws : List (Key × Write)} (hS : ∀ k, Sorted (getS l k)) (h : ComX l la s ws r e l' la') : ∀ k, Sorted (getS l' k) := by
  rcases h with ⟨_, _, _, rfl, rfl⟩ | ⟨_, _, _, _, rfl, rfl⟩ | ⟨_, _, ys, _, _, _, h9, h10⟩
  · exact hS
  · exact hS
  · by_cases he : e = 0
    · exact (h10 he).2.2.sorted hS
    · rw [(h9 he).2.1]; exact hS
theorem ComX.le_la {l l' : List (Key × CV)} {la la' e : Int} {s r : Stamp} {ws : List (Key × Write)} (h : ComX l la s ws r e l' la') : la ≤ la' := by
  rcases h with ⟨_, _, _, _, h⟩ | ⟨_, _, _, _, _, h⟩ | ⟨_, _, _, _, _, h8, h9, h10⟩
  · omega
  · omega
  · by_cases he : e = 0
    · have := (h10 he).2.1; omega
    · have := (h9 he).2.2; omega
theorem Moves.inv {nt : Int} {s t : SoS} (h : Moves nt s t) (hs : SInv s) : SInv t := by
  induction h with
  | refl => exact hs
  | begin xb h hti hlen ih =>
    refine ⟨ih.top, ih.sorted, ih.nn, fun q hq => ?_⟩
    rcases aput_mem hq with h | h
    · subst h; exact Stamp.lt_irrefl _
    · exact ih.snap q h
  | put x h hti ih =>
    refine ⟨ih.top, ih.sorted, ih.nn, fun q hq => ?_⟩
    unfold afterS at hq
    split at hq
    · exact ih.snap q hq
    · rename_i q0 hq0
      rcases aput_mem hq with h | h
      · rw [h]; exact ih.snap (_, q0) (alook_mem hq0)
      · exact ih.snap q h
  | commit h hti hc ih =>
    rename_i t ti r e l' la'
    cases hl : alook t.xl ti with
    | none =>
      rw [hl] at hc
      obtain ⟨_, _, rfl, rfl⟩ := hc
      exact ⟨ih.top, ih.sorted, ih.nn, fun q hq => ih.snap q ((adel_sub _ _).subset hq)⟩
    | some q =>
      rw [hl] at hc
      have hle := hc.le_la
      refine ⟨ih.top.com hc, hc.sorted ih.sorted, by have := ih.nn; simp only; omega, fun q hq h1 => ?_⟩
      have h2 := ih.snap q ((adel_sub _ _).subset hq)
      rcases Int.lt_or_eq_of_le hle with h3 | h3
      · exact h2 (Stamp.lt_trans (lt_time h3) h1)
      · simp only at h1; rw [← h3] at h1; exact h2 h1
  | abort h hti ih => exact ⟨ih.top, ih.sorted, ih.nn, fun q hq => ih.snap q ((adel_sub _ _).subset hq)⟩
  | trim h hl ht ih =>
    refine ⟨fun k v hv => ?_, fun k => ?_, ih.nn, ih.snap⟩
    · rw [ht.get] at hv; exact ih.top k v (List.mem_of_mem_drop hv)
    · rw [ht.get]; exact (ih.sorted k).sublist (List.drop_sublist _ _)
/-! ## what one puts -/
def wsAll (ws : List (Key × Write)) (us : List Write) : List (Key × Write) := us.foldl afterX ws
theorem goodWs_one (w : Write) : goodWs [w] = goodW w := by simp [goodWs]
structure WInv (ws : List (Key × Write)) : Prop where
  nd : (ws.map Prod.fst).Nodup
  good : ∀ q ∈ ws, goodW q.2 = true ∧ q.2.key = q.1
theorem WInv.nil : WInv [] := ⟨.nil, by simp⟩
theorem WInv.step {ws : List (Key × Write)} {w : Write} (h : WInv ws) : WInv (afterX ws w) := by
  unfold afterX
  split
  · rename_i h0
    have hg : goodW w = true := by
      unfold putX at h0
      rw [goodWs_one] at h0
      split at h0
      · cases h0
      · simp_all
    refine ⟨aput_nodup _ _ h.nd, fun q hq => ?_⟩
    rcases aput_mem hq with h1 | h1
    · subst h1; exact ⟨hg, rfl⟩
    · exact h.good q h1
  · exact h
/-! ## a commit of good writes above all: it is done, or there is no room -/
/-! ## two that are open at once -/
def comW (x y : Write) : Bool := decide (x.key = y.key) && goodW x && goodW y
end Go.X

/- The engine, part 19: the places of long regions. -/
namespace Go.X
open Go
end Go.X

namespace Go.X
open Go.Proofs
theorem hb_50 : hasBody Tryz.prog 50 = true := by kernel_rfl
theorem hb_52 : hasBody Tryz.prog 52 = true := by kernel_rfl
end Go.X

namespace Go.X
open Go.Proofs

open Go.ChangeShapes Go.WideShapes Go.Deep Go.RowKit

theorem decSAct {H : Type} {en : TypeId × Value → H} {w : World} {base : Nat} {spare : Nat → Bool} {held : Bool} {n : Nat} {cs : List Value} {y : DataW H × List MemPlace} (h : DataW.trod en Tryz.prog w base spare held n 205 cs = some y) (hw : Fits Tryz.prog 205 y.1) : ∃ x : SAct, cs = (SAct_enc x).toList ∧ (Lit.int .i64 x.id).wf = true := by
  obtain ⟨hl, n1, hf⟩ := trod_field (by kernel_rfl) h hw
  rw [(by kernel_rfl : Tryz.prog.cellsOf 205 = 37)] at hl
  obtain ⟨y0, h0, w0⟩ := hf 0 3 0 (by kernel_rfl)
  rw [(by kernel_rfl : Tryz.prog.cellsOf 3 = 1)] at h0
  obtain ⟨x0, e0, q0⟩ := dec_int (k := .i64) (by kernel_rfl) h0
  obtain ⟨y1, h1, w1⟩ := hf 1 3 1 (by kernel_rfl)
  rw [(by kernel_rfl : Tryz.prog.cellsOf 3 = 1)] at h1
  obtain ⟨x1, e1, q1⟩ := dec_int (k := .i64) (by kernel_rfl) h1
  obtain ⟨y2, h2, w2⟩ := hf 2 2 2 (by kernel_rfl)
  rw [(by kernel_rfl : Tryz.prog.cellsOf 2 = 1)] at h2
  obtain ⟨x2, e2, q2⟩ := dec_int (k := .i64) (by kernel_rfl) h2
  obtain ⟨y3, h3, w3⟩ := hf 3 47 3 (by kernel_rfl)
  rw [(by kernel_rfl : Tryz.prog.cellsOf 47 = 18)] at h3
  obtain ⟨x3, e3, q3⟩ := decWrite h3 w3
  obtain ⟨y4, h4, w4⟩ := hf 4 45 21 (by kernel_rfl)
  rw [(by kernel_rfl : Tryz.prog.cellsOf 45 = 16)] at h4
  obtain ⟨x4, e4⟩ := dec_Key (e := 5) (by kernel_rfl) (by kernel_rfl) (by kernel_rfl) (by kernel_rfl) h4
  have k0 := split_at cs 0 (b := 1) (n := 1) rfl
  rw [e0] at k0
  have k1 := split_at cs 1 (b := 1) (n := 2) rfl
  rw [e1] at k1
  have k2 := split_at cs 2 (b := 1) (n := 3) rfl
  rw [e2] at k2
  have k3 := split_at cs 3 (b := 18) (n := 21) rfl
  rw [e3] at k3
  have k4 := split_at cs 21 (b := 16) (n := 37) rfl
  rw [e4] at k4
  rw [List.drop_eq_nil_of_le (by omega : cs.length ≤ 37)] at k4
  rw [← k4] at k3
  rw [← k3] at k2
  rw [← k2] at k1
  rw [← k1] at k0
  refine ⟨⟨x0, x1, x2, x3, x4⟩, ?_, q2⟩
  show cs.drop 0 = _; rw [← k0]; rfl

section
variable {H : Type} {en : TypeId × Value → H} {W : World} {r : Reach} {b0 base : Nat} {spare : Nat → Bool} {held : Bool} {v : Value} {d : DataW H} {p : List MemPlace}
set_option maxRecDepth 100000 in
theorem sacts_of (hv : Value.okWide Tryz.prog W r b0 96 v) (h : DataW.Trod en Tryz.prog W base spare held 96 v d p) (hw : Fits Tryz.prog 96 d) :
    ∃ av m cap xs, v = .slice av m cap ∧ Given W SAct_enc av m xs ∧ ∀ x ∈ xs, (Lit.int .i64 x.id).wf = true := by
  obtain ⟨av, m, cap, rfl⟩ := okWide_slice (e := 205) (by kernel_rfl) hv
  obtain ⟨n, hf⟩ := h
  obtain ⟨av', m', cap', xs, he, hg, hq⟩ := dec_slice (enc := SAct_enc) (Q := fun x => (Lit.int .i64 x.id).wf = true) SAct_size (by decide) (by kernel_rfl) (by kernel_rfl) (of_decide_eq_true (by kernel_rfl)) (fun _ _ _ h hw => decSAct h hw) hf hw
  simp only [Value.cells, List.cons.injEq, Value.slice.injEq, and_true] at he
  obtain ⟨rfl, rfl, rfl⟩ := he
  exact ⟨_, _, _, xs, rfl, hg, hq⟩
end

end Go.X
